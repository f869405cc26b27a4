/- Infos and welcomes: which may be, and their bytes: what msg hands back. No conditions: contracts of the program's functions. -/
import Derived.Test.YtpgalbgonmclaaaMsW
namespace Go.Proofs.Ytpgalbgonmclaaa
open Go.RowKit
attribute [local irreducible] Y Ef WL WC WK WQ WM OpM WN WF OpN WJ OpJ WG OpG
open Wire Nd M20
/-- The first that a predicate holds of, or none. -/
theorem idxGuest_any (A : Option Addr) (n c : Nat) (xs : List Gst) (f : FuncId) (us : List Value) (p : Gst → Bool) (fn : Func) (b : Code) (w : World) (HA : Els GstAt 3 w A n xs) (hn : n ≤ 1000000) (hf : Try.prog.funcs[f]? = some fn) (hb : fn.body = some b) (hnm : (fn.name == "runtime.NumGoroutine") = false)
    (hp : ∀ x ∈ xs, ∀ (cs : Array Value) (w1 : World), Ext w w1 → GstAt w1 cs x → Calls Try.prog f ([Value.agg cs] ++ us).toArray w1 fun e w' => e = .returned (.bool (p x)) ∧ Ext w1 w') :
    Calls Try.prog 191 #[.slice A n c, .func (.func f) #[] us.toArray] w fun e w' => ∃ z : Int, e = .returned (.int .i64 z) ∧ (0 ≤ z ↔ xs.any p = true) ∧ Ext w w' := by
  have hl := HA.1
  refine vc_enter1 19 Try.func191 rfl rfl rfl rfl ?_
  intro Q hret
  refine wc_seq ?_; intro K1 hK1
  refine wc_region ?_
  refine wl_y (y_assign rfl) rfl ?_
  refine wl_nil ?_
  refine wq_then_norm (hK1 ?_)
  refine wc_seq ?_; intro K2 hK2
  refine wc_seq ?_; intro K3 hK3
  refine wc_region ?_
  refine wl_y (y_move rfl) rfl ?_
  refine wl_y (y_len_slice rfl Try.underlying78) rfl ?_
  refine wl_y (y_move rfl) rfl ?_
  refine wl_nil ?_
  refine wq_then_norm (hK3 ?_)
  refine wc_block ?_
  refine wc_loop (fun n' L wr => ∃ i : Nat, L = [(0, .slice A n c), (1, .func (.func f) #[] us.toArray), (7, .int .i64 (n : Int)), (8, .int .i64 (i : Int))] ∧ n' = n - i ∧ (i ≤ n ∧ Ext w wr ∧ (xs.take i).any p = false)) _ _ ⟨0, rfl, rfl, by omega, Ext.refl _, rfl⟩ ⟨rfl, rfl, (by first | rfl | exact congrArg some (int_val (by omega))), (by first | rfl | exact congrArg some (int_val (by omega))), trivial⟩ ?_
  rintro KL1 n' L wr ⟨i, rfl, rfl, hi, E, hno⟩ hL1
  refine wc_seq ?_; intro K4 hK4
  refine wc_region ?_
  refine wl_y (y_lss rfl rfl) rfl ?_
  refine wl_nil ?_
  refine wq_then_norm (hK4 ?_)
  refine wc_seq ?_; intro K5 hK5
  refine wc_dec rfl (fun hc1 => ?_) (fun hc1 => ?_)
  · skip
    refine wc_skip ?_
    refine wq_then_norm (hK5 ?_)
    refine wc_seq ?_; intro K6 hK6
    refine wc_block ?_
    refine wc_seq ?_; intro K7 hK7
    refine wc_region ?_
    refine wl_y (y_move rfl) rfl ?_
    refine wl_y (y_assign rfl) rfl ?_
    refine wl_nil ?_
    refine wq_then_norm (hK7 ?_)
    refine wc_seq ?_; intro K8 hK8
    obtain ⟨b1, off1, cs, x, rfl, _, hx, hcz, hR, hcx⟩ := (HA.ext E fun _ _ h => GstAt.ext h E).get2 (by omega) (i := i) (by omega)
    have htk := take_snoc hx
    refine wc_region ?_
    refine wl_y (y_move rfl) rfl ?_
    refine wl_y (y_move rfl) rfl ?_
    refine wl_y (y_move rfl) rfl ?_
    refine wl_y (y_ixsp (s := 3) (j := i) rfl rfl Try.underlying78 (by kernel_rfl) rfl (by omega)) rfl ?_
    refine wl_y (y_loadp rfl Try.underlying142 rfl (by rw [hcz]; kernel_rfl) fun j v hv => by rw [Addr.add_plain]; exact hcx j v hv) rfl ?_
    refine wl_ef (ef_callv (Φ := fun v w' => v = .bool (p x) ∧ Ext _ w') (xs := [_]) (vs := [.agg cs]) rfl hf hb hnm rfl (hp x (List.mem_of_getElem? hx) cs _ E hR) (fun _ _ h => ⟨_, h.1, rfl, h.2⟩)) rfl ?_
    rintro _ w2 ⟨rfl, ex⟩
    have E2 := E.ext ex
    refine wl_nil ?_
    refine wq_then_norm (hK8 ?_)
    refine wc_cond rfl (fun hc2 => ?_) (fun hc2 => ?_)
    · skip
      refine wc_seq ?_; intro K9 hK9
      refine wc_region ?_
      refine wl_y (y_move rfl) rfl ?_
      refine wl_y (y_assign rfl) rfl ?_
      refine wl_nil ?_
      refine wq_then_norm (hK9 ?_)
      refine wc_ret ?_
      refine wq_blk_ret ?_
      refine wq_then_ret ?_
      refine wq_then_ret ?_
      refine wq_blk_ret ?_
      refine wq_then_ret ?_
      refine hret rfl ?_
      refine ⟨i, rfl, ⟨fun _ => ?_, fun _ => by omega⟩, E2⟩
      rw [List.any_eq_true]
      exact ⟨x, List.mem_of_getElem? hx, hc2⟩
    · skip
      refine wc_skip ?_
      refine wq_blk_norm ?_
      refine wq_then_norm (hK6 ?_)
      refine wc_region ?_
      refine wl_y (y_add rfl rfl (i64_ok (by omega) (by omega))) rfl ?_
      refine wl_y (y_move rfl) rfl ?_
      refine wl_nil ?_
      refine wq_then_norm ?_
      refine hL1 _ _ ⟨i + 1, rfl, rfl, by omega, E2, by rw [htk, List.any_append, hno]; simpa using hc2⟩ (by omega) ⟨rfl, rfl, (by first | rfl | exact congrArg some (int_val (by omega))), (by first | rfl | exact congrArg some (int_val (by omega))), trivial⟩
  · skip
    refine wc_exit ?_
    refine wq_then_exit ?_
    refine wq_then_exit ?_
    refine wq_blk_hit ?_
    refine wq_then_norm (hK2 ?_)
    refine wc_seq ?_; intro K10 hK10
    refine wc_region ?_
    refine wl_y (y_assign rfl) rfl ?_
    refine wl_nil ?_
    refine wq_then_norm (hK10 ?_)
    refine wc_ret ?_
    refine hret rfl ?_
    refine ⟨-1, rfl, ⟨fun h => absurd h (by omega), fun h => ?_⟩, E⟩
    rw [List.take_of_length_le (by omega)] at hno
    rw [hno] at h
    cases h
theorem contGuest_any (A : Option Addr) (n c : Nat) (xs : List Gst) (f : FuncId) (us : List Value) (p : Gst → Bool) (fn : Func) (b : Code) (w : World) (HA : Els GstAt 3 w A n xs) (hn : n ≤ 1000000) (hf : Try.prog.funcs[f]? = some fn) (hb : fn.body = some b) (hnm : (fn.name == "runtime.NumGoroutine") = false)
    (hp : ∀ x ∈ xs, ∀ (cs : Array Value) (w1 : World), Ext w w1 → GstAt w1 cs x → Calls Try.prog f ([Value.agg cs] ++ us).toArray w1 fun e w' => e = .returned (.bool (p x)) ∧ Ext w1 w') :
    Calls Try.prog 167 #[.slice A n c, .func (.func f) #[] us.toArray] w fun e w' => e = .returned (.bool (xs.any p)) ∧ Ext w w' := by
  refine vc_enter1 9 Try.func167 rfl rfl rfl rfl ?_
  intro Q hret
  refine wc_seq ?_; intro K1 hK1
  refine wc_region ?_
  refine wl_y (y_assign rfl) rfl ?_
  refine wl_nil ?_
  refine wq_then_norm (hK1 ?_)
  refine wc_seq ?_; intro K2 hK2
  refine wc_region ?_
  refine wl_y (y_move rfl) rfl ?_
  refine wl_y (y_move rfl) rfl ?_
  refine wl_call Try.func191 rfl rfl rfl (idxGuest_any A n c xs f us p fn b _ HA hn hf hb hnm hp) rfl ?_
  rintro e w2 ⟨z, rfl, hz, ex⟩
  refine ⟨_, rfl, ?_⟩
  skip
  refine wl_y (y_geq rfl rfl) rfl ?_
  refine wl_y (y_assign rfl) rfl ?_
  refine wl_nil ?_
  refine wq_then_norm (hK2 ?_)
  refine wc_ret ?_
  refine hret rfl ?_
  exact ⟨(ret_bool_of hz.symm).symm, ex⟩
section
variable {cs : Array Value} {i : Inf} {x : Wel} {g : Nat} {t : TypeId}
theorem badGuest_any {y : Gst} (w : World) (H : GstAt w cs y) :
    Calls Try.prog 166 #[.agg cs] w fun e w' => e = .returned (.bool (!decide (okGst y))) ∧ Ext w w' := by
  obtain ⟨a, b, c, rfl, k1, k2, k3⟩ := H
  have n1 := k1.1; have n2 := k2.1
  have E := Ext.refl w
  refine vc_enter1 14 Try.func166 rfl rfl rfl rfl ?_
  intro Q hret
  refine wc_seq ?_; intro K1 hK1
  refine wc_region ?_
  refine wl_ef (ef_box rfl rfl) rfl ?_
  rintro _ wB1 ⟨gB1, rfl, B1, hgB1, ex⟩
  have lB1 := B1.lt; have zB1 := ex.size
  replace E := E.ext ex
  refine wl_y (y_assign rfl) rfl ?_
  refine wl_nil ?_
  refine wq_then_norm (hK1 ?_)
  refine wc_seq ?_; intro K2 hK2
  refine wc_region ?_
  refine wl_y (y_fieldAddr (o := 0) (s := 1) (off := 0) (o' := 0) rfl Try.underlying142 rfl (by kernel_rfl) rfl rfl) rfl ?_
  refine wl_y (y_load1 rfl Try.underlying22 rfl (B1.get (i := 0) rfl)) rfl ?_
  refine wl_y (y_len_slice rfl Try.underlying22) rfl ?_
  refine wl_yask (y_neq rfl rfl) rfl (fun q0 => ?_) (fun q0 => ?_)
  · skip
    refine wl_y (y_move rfl) rfl ?_
    refine wl_gno 7 rfl rfl rfl rfl ?_
    refine wl_gno 7 rfl rfl rfl rfl ?_
    refine wl_gno 7 rfl rfl rfl rfl ?_
    refine wl_gno 7 rfl rfl rfl rfl ?_
    refine wl_gno 7 rfl rfl rfl rfl ?_
    refine wl_y (y_pickt rfl rfl) rfl ?_
    refine wl_y (y_assign rfl) rfl ?_
    refine wl_nil ?_
    refine wq_then_norm (hK2 ?_)
    refine wc_ret ?_
    refine hret rfl ?_
    exact ⟨by rw [decide_eq_false (fun h : okGst y => by have := h.1; omega)]; rfl, E⟩
  · skip
    refine wl_y (y_move rfl) rfl ?_
    refine wl_gy 7 rfl rfl (y_fieldAddr (o := 1) (s := 2) (off := 0) (o' := 1) rfl Try.underlying142 rfl (by kernel_rfl) rfl rfl) rfl ?_
    refine wl_gy 7 rfl rfl (y_fieldAddr (o := 0) (s := 1) (off := 1) (o' := 1) rfl Try.underlying111 rfl (by kernel_rfl) rfl rfl) rfl ?_
    refine wl_gy 7 rfl rfl (y_load1 rfl Try.underlying22 rfl (B1.get (i := 1) rfl)) rfl ?_
    refine wl_gy 7 rfl rfl (y_len_slice rfl Try.underlying22) rfl ?_
    refine wl_gy 7 rfl rfl (y_neq rfl rfl) rfl ?_
    refine wl_y (y_pickf rfl rfl) rfl ?_
    refine wl_y (y_assign rfl) rfl ?_
    refine wl_nil ?_
    refine wq_then_norm (hK2 ?_)
    refine wc_ret ?_
    refine hret rfl ?_
    exact ⟨(ret_bool_of (by rw [Bool.not_eq_true', decide_eq_false_iff_not]; exact ⟨fun h e => h ⟨by omega, by omega⟩, fun h e => by have := e.2; omega⟩)).symm, E⟩
theorem rightWelcome_any (w : World) (H : WelAt w cs x) (hf : x.guests.length ≤ 1000000) :
    Calls Try.prog 123 #[.agg cs] w fun e w' => e = .returned (.bool (decide (okWel x))) ∧ Ext w w' := by
  obtain ⟨h0, h1, rfl, a0, a1⟩ := H
  have l0 := a0.1
  have E := Ext.refl w
  refine vc_enter1 15 Try.func123 rfl rfl rfl rfl ?_
  intro Q hret
  refine wc_seq ?_; intro K1 hK1
  refine wc_region ?_
  refine wl_ef (ef_box rfl rfl) rfl ?_
  rintro _ wB1 ⟨gB1, rfl, B1, hgB1, ex⟩
  have lB1 := B1.lt; have zB1 := ex.size
  replace E := E.ext ex
  refine wl_y (y_assign rfl) rfl ?_
  refine wl_nil ?_
  refine wq_then_norm (hK1 ?_)
  refine wc_seq ?_; intro K2 hK2
  refine wc_region ?_
  refine wl_y (y_assign rfl) rfl ?_
  refine wl_nil ?_
  refine wq_then_norm (hK2 ?_)
  refine wc_seq ?_; intro K3 hK3
  refine wc_region ?_
  refine wl_y (y_fieldAddr (o := 0) (s := 1) (off := 0) (o' := 0) rfl Try.underlying80 rfl (by kernel_rfl) rfl rfl) rfl ?_
  refine wl_y (y_load1 rfl Try.underlying78 rfl (B1.get (i := 0) rfl)) rfl ?_
  refine wl_y (y_len_slice rfl Try.underlying78) rfl ?_
  refine wl_yask (y_leq rfl rfl) rfl (fun q0 => ?_) (fun q0 => ?_)
  · skip
    refine wl_y (y_move rfl) rfl ?_
    refine wl_gy 8 rfl rfl (y_fieldAddr (o := 0) (s := 1) (off := 0) (o' := 0) rfl Try.underlying80 rfl (by kernel_rfl) rfl rfl) rfl ?_
    refine wl_gy 8 rfl rfl (y_load1 rfl Try.underlying78 rfl (B1.get (i := 0) rfl)) rfl ?_
    refine wl_gy 8 rfl rfl (y_move rfl) rfl ?_
    refine wl_gcall 8 rfl rfl Try.func167 rfl rfl rfl (contGuest_any h0.A h0.n h0.c x.guests 166 [] (fun b => !decide (okGst b)) _ _ _ (a0.ext E fun _ _ h => GstAt.ext h E) (by omega) Try.func166 rfl rfl (fun b _ cs w1 _ hb => badGuest_any w1 hb)) rfl ?_
    rintro e w2 ⟨rfl, ex⟩
    refine ⟨_, rfl, ?_⟩
    replace E := E.ext ex
    replace B1 := B1.ext ex
    skip
    refine wl_gy 8 rfl rfl (y_not rfl) rfl ?_
    refine wl_y (y_pickt rfl rfl) rfl ?_
    refine wl_y (y_assign rfl) rfl ?_
    refine wl_nil ?_
    refine wq_then_norm (hK3 ?_)
    refine wc_ret ?_
    refine hret rfl ?_
    exact ⟨ret_bool_of (by
      rw [Bool.not_eq_true', ← Bool.not_eq_true, any_not, Classical.not_not]
      exact ⟨fun h => ⟨by omega, h⟩, fun h => h.2⟩), E⟩
  · skip
    refine wl_y (y_move rfl) rfl ?_
    refine wl_gno 8 rfl rfl rfl rfl ?_
    refine wl_gno 8 rfl rfl rfl rfl ?_
    refine wl_gno 8 rfl rfl rfl rfl ?_
    refine wl_gno 8 rfl rfl rfl rfl ?_
    refine wl_gno 8 rfl rfl rfl rfl ?_
    refine wl_y (y_pickf rfl rfl) rfl ?_
    refine wl_y (y_assign rfl) rfl ?_
    refine wl_nil ?_
    refine wq_then_norm (hK3 ?_)
    refine wc_ret ?_
    refine hret rfl ?_
    exact ⟨ret_no fun h => by have := h.1; omega, E⟩
theorem gstB_small {y : Gst} (h : y.Fit) (ok : okGst y) : (gstB y).length ≤ 1000100 := by
  have h1 := vec_le y.ref; have h2 := vec_le y.enc; have h3 := vec_le y.box; have h4 := h.2.2
  have h5 := ok.1; have h6 := ok.2
  unfold gstB; simp only [List.length_append]; omega
theorem welBytesF (w : World) (B : Blk w g t cs) (H : WelAt w cs x) (hf : x.Fit) (ok : okWel x) :
    Calls Try.prog 124 #[.pointer (some ⟨g, 0, none⟩)] w fun e w' => ∃ A k c, e = .returned (.slice A k c) ∧ (Bs w' A k (welB x) ∧ k ≤ c) ∧ Ext w w' := by
  obtain ⟨h0, h1, rfl, a0, a1⟩ := H
  have l0 := a0.1; have l1 := a1.1; have l2 := ok.1; have l3 := hf.2.2
  have E := Ext.refl w
  refine vc_enter1 35 Try.func124 rfl rfl rfl rfl ?_
  intro Q hret
  refine wc_seq ?_; intro K1 hK1
  refine wc_region ?_
  refine wl_y (y_assign rfl) rfl ?_
  refine wl_nil ?_
  refine wq_then_norm (hK1 ?_)
  refine wc_seq ?_; intro K2 hK2
  refine wc_region ?_
  refine wl_y (y_assign rfl) rfl ?_
  refine wl_nil ?_
  refine wq_then_norm (hK2 ?_)
  refine wc_seq ?_; intro K3 hK3
  refine wc_seq ?_; intro K4 hK4
  refine wc_region ?_
  refine wl_y (y_fieldAddr (o := 0) (s := 1) (off := 0) (o' := 0) rfl Try.underlying80 rfl (by kernel_rfl) rfl rfl) rfl ?_
  refine wl_y (y_load1 rfl Try.underlying78 rfl (B.get (i := 0) rfl)) rfl ?_
  refine wl_y (y_len_slice rfl Try.underlying78) rfl ?_
  refine wl_y (y_move rfl) rfl ?_
  refine wl_nil ?_
  refine wq_then_norm (hK4 ?_)
  refine wc_block ?_
  refine wc_loop (fun n' L wr => ∃ (i : Nat) (A : Option Addr) (n k : Nat) (xs : List UInt8), L = [(0, .pointer (some ⟨g, 0, none⟩)), (2, .slice A n k), (7, .slice h0.A h0.n h0.c), (8, .int .i64 (h0.n : Int)), (9, .int .i64 (i : Int))] ∧ n' = h0.n - i ∧ (i ≤ h0.n ∧ Ext w wr ∧ Blk wr g t (twoV h0 h1) ∧ Bs wr A n xs ∧ xs = (x.guests.take i).flatMap gstB)) _ _ ⟨0, none, 0, 0, [], rfl, rfl, by omega, E, B, Bs.nil _ _, by simp⟩ ⟨rfl, rfl, rfl, (by first | rfl | exact congrArg some (int_val (by omega))), (by first | rfl | exact congrArg some (int_val (by omega))), trivial⟩ ?_
  rintro KL1 n' L wr ⟨i, A, n, k, xs, rfl, rfl, hi, E, B, S, hxs⟩ hL1
  refine wc_seq ?_; intro K5 hK5
  refine wc_region ?_
  refine wl_y (y_lss rfl rfl) rfl ?_
  refine wl_nil ?_
  refine wq_then_norm (hK5 ?_)
  refine wc_seq ?_; intro K6 hK6
  refine wc_dec rfl (fun hc1 => ?_) (fun hc1 => ?_)
  · skip
    refine wc_skip ?_
    refine wq_then_norm (hK6 ?_)
    refine wc_seq ?_; intro K7 hK7
    refine wc_block ?_
    refine wc_seq ?_; intro K8 hK8
    obtain ⟨b1, o1, cs1, y, e1, _, hx, hcz, hR, hcx⟩ := a0.get2 (by omega) (i := i) (by omega)
    obtain ⟨f0, f1, f2, rfl, v0, v1, v2⟩ := hR
    have oky := ok.2 y (ix_mem hx)
    have hfy := hf.2.1 y (ix_mem hx)
    have m0 := v0.1; have m1 := v1.1; have m2 := v2.1; have m3 := oky.1; have m4 := oky.2; have m5 := hfy.2.2
    have hxl : xs.length ≤ i * 1000100 := by rw [hxs]; exact flatMap_tk_le i fun y hy => gstB_small (hf.2.1 y hy) (ok.2 y hy)
    have hnx := S.1
    refine wc_region ?_
    refine wl_y (y_ixsE (s := 3) (j := i) e1 rfl rfl Try.underlying78 (by kernel_rfl) rfl (by omega)) rfl ?_
    refine wl_y (y_loadp rfl Try.underlying142 rfl (by rw [hcz]; kernel_rfl) fun j v hv => by rw [Addr.add_plain]; exact E.cellE (hcx j v hv)) rfl ?_
    refine wl_ef (ef_alloc (Z := #[.slice none 0 0, .slice none 0 0, .slice none 0 0]) (by kernel_rfl)) rfl ?_
    rintro _ wA4 ⟨gB4, rfl, D4, hgB4, exA⟩
    refine wl_ef (ef_storeP (o := 0) rfl rfl (by kernel_rfl) D4 (Nat.le_of_ble_eq_true rfl) (all_ones rfl)) rfl ?_
    rintro _ wB4 ⟨rfl, B4, cg⟩
    have ex := exA.chg cg hgB4; clear cg exA D4
    have lB4 := B4.lt; have zB4 := ex.size
    replace E := E.ext ex
    replace B := B.ext ex
    replace S := S.ext ex
    refine wl_nil ?_
    refine wq_then_norm (hK8 ?_)
    refine wc_draw (by kernel_rfl) 13 rfl ?_; intro wd5 ex hd5
    replace E := E.ext ex
    replace B := B.ext ex
    replace S := S.ext ex
    replace B4 := B4.ext ex
    refine wm_y 0 rfl (by kernel_rfl) (y_move rfl) rfl ?_
    refine wm_y 1 rfl (by kernel_rfl) (y_fieldAddr (o := 0) (s := 1) (off := 0) (o' := 0) rfl Try.underlying142 rfl (by kernel_rfl) rfl rfl) rfl ?_
    refine wm_y 2 rfl (by kernel_rfl) (y_load1 rfl Try.underlying22 rfl (B4.get (i := 0) rfl)) rfl ?_
    refine wm_y 4 rfl (by kernel_rfl) (y_fieldAddr (o := 1) (s := 2) (off := 0) (o' := 1) rfl Try.underlying142 rfl (by kernel_rfl) rfl rfl) rfl ?_
    refine wm_y 5 rfl (by kernel_rfl) (y_fieldAddr (o := 0) (s := 1) (off := 1) (o' := 1) rfl Try.underlying111 rfl (by kernel_rfl) rfl rfl) rfl ?_
    refine wm_y 6 rfl (by kernel_rfl) (y_load1 rfl Try.underlying22 rfl (B4.get (i := 1) rfl)) rfl ?_
    refine wm_y 8 rfl (by kernel_rfl) (y_fieldAddr (o := 1) (s := 2) (off := 0) (o' := 1) rfl Try.underlying142 rfl (by kernel_rfl) rfl rfl) rfl ?_
    refine wm_y 9 rfl (by kernel_rfl) (y_fieldAddr (o := 1) (s := 1) (off := 1) (o' := 2) rfl Try.underlying111 rfl (by kernel_rfl) rfl rfl) rfl ?_
    refine wm_y 10 rfl (by kernel_rfl) (y_load1 rfl Try.underlying22 rfl (B4.get (i := 2) rfl)) rfl ?_
    refine wm_one 3 (by kernel_rfl) ?_; refine om_call rfl Try.func87 rfl rfl rfl (mvec_any A f0.A n k f0.n f0.c _ _ _ S (by omega) (Bs.ext v0 E) (by omega)) rfl ?_
    rintro e w4 ⟨A4, k4, c4, rfl, R4, hk4, ex⟩
    refine ⟨_, rfl, .inr ex, ?_⟩
    replace E := E.ext ex
    replace B := B.ext ex
    replace S := S.ext ex
    replace B4 := B4.ext ex
    have hl4 := lsz_le f0.n
    refine wm_one 7 (by kernel_rfl) ?_; refine om_call rfl Try.func87 rfl rfl rfl (mvec_any A4 f1.A k4 c4 f1.n f1.c _ _ _ R4.bs (by omega) (Bs.ext v1 E) (by omega)) rfl ?_
    rintro e w5 ⟨A5, k5, c5, rfl, R5, hk5, ex⟩
    refine ⟨_, rfl, .inr ex, ?_⟩
    replace E := E.ext ex
    replace B := B.ext ex
    replace B4 := B4.ext ex
    replace R4 := R4.ext ex
    have hl5 := lsz_le f1.n
    refine wm_one 11 (by kernel_rfl) ?_; refine om_call rfl Try.func87 rfl rfl rfl (mvec_any A5 f2.A k5 c5 f2.n f2.c _ _ _ R5.bs (by omega) (Bs.ext v2 E) (by omega)) rfl ?_
    rintro e w6 ⟨A6, k6, c6, rfl, R6, hk6, ex⟩
    refine ⟨_, rfl, .inr ex, ?_⟩
    replace E := E.ext ex
    replace B := B.ext ex
    replace B4 := B4.ext ex
    replace R5 := R5.ext ex
    refine wm_y 12 rfl (by kernel_rfl) (y_assign rfl) rfl ?_
    refine wm_done (by kernel_rfl) ?_
    refine wq_nop ?_
    refine wq_blk_norm ?_
    refine wq_then_norm (hK7 ?_)
    refine wc_region ?_
    refine wl_y (y_add rfl rfl (i64_ok (by omega) (by omega))) rfl ?_
    refine wl_y (y_move rfl) rfl ?_
    refine wl_nil ?_
    refine wq_then_norm ?_
    refine hL1 _ _ ⟨i + 1, A6, k6, c6, ((xs ++ vec y.ref) ++ vec y.enc) ++ vec y.box, rfl, rfl, by omega, E, B, R6.bs, by rw [flatMap_take hx, ← hxs]; unfold gstB; simp⟩ (by omega) ⟨rfl, rfl, rfl, (by first | rfl | exact congrArg some (int_val (by omega))), (by first | rfl | exact congrArg some (int_val (by omega))), trivial⟩
  · skip
    refine wc_exit ?_
    refine wq_then_exit ?_
    refine wq_then_exit ?_
    refine wq_blk_hit ?_
    refine wq_then_norm (hK3 ?_)
    refine wc_seq ?_; intro K9 hK9
    have hxf : xs = x.guests.flatMap gstB := by rw [hxs, flatMap_full (by omega)]
    have hxl : xs.length ≤ i * 1000100 := by rw [hxs]; exact flatMap_tk_le i fun y hy => gstB_small (hf.2.1 y hy) (ok.2 y hy)
    have hnx := S.1
    refine wc_region ?_
    refine wl_call Try.func88 rfl rfl rfl (mnum_any none 0 0 2 1 [] _ (Bs.nil _ _) (by omega) (by omega) (by omega)) rfl ?_
    rintro e w2 ⟨A2, c2, rfl, R2, ex⟩
    refine ⟨_, rfl, ?_⟩
    replace E := E.ext ex
    replace B := B.ext ex
    replace S := S.ext ex
    skip
    refine wl_call Try.func88 rfl rfl rfl (mnum_any A2 _ c2 2 3 _ _ R2.bs (by omega) (by omega) (by omega)) rfl ?_
    rintro e w3 ⟨A3, c3, rfl, R3, ex⟩
    refine ⟨_, rfl, ?_⟩
    replace E := E.ext ex
    replace B := B.ext ex
    replace S := S.ext ex
    replace R2 := R2.ext ex
    skip
    refine wl_call Try.func88 rfl rfl rfl (mnum_any A3 _ c3 2 1 _ _ R3.bs (by omega) (by omega) (by omega)) rfl ?_
    rintro e w4 ⟨A4, c4, rfl, R4, ex⟩
    refine ⟨_, rfl, ?_⟩
    replace E := E.ext ex
    replace B := B.ext ex
    replace S := S.ext ex
    replace R3 := R3.ext ex
    skip
    refine wl_y (y_assign rfl) rfl ?_
    refine wl_nil ?_
    refine wq_then_norm (hK9 ?_)
    refine wc_seq ?_; intro K10 hK10
    refine wc_draw (by kernel_rfl) 7 rfl ?_; intro wd8 ex hd8
    replace E := E.ext ex
    replace B := B.ext ex
    replace S := S.ext ex
    replace R4 := R4.ext ex
    refine wm_y 0 rfl (by kernel_rfl) (y_move rfl) rfl ?_
    refine wm_y 1 rfl (by kernel_rfl) (y_move rfl) rfl ?_
    refine wm_y 3 rfl (by kernel_rfl) (y_fieldAddr (o := 1) (s := 1) (off := 0) (o' := 1) rfl Try.underlying80 rfl (by kernel_rfl) rfl rfl) rfl ?_
    refine wm_y 4 rfl (by kernel_rfl) (y_load1 rfl Try.underlying22 rfl (B.get (i := 1) rfl)) rfl ?_
    refine wm_one 2 (by kernel_rfl) ?_; refine om_call rfl Try.func87 rfl rfl rfl (mvec_any A4 A _ c4 n k _ _ _ R4.bs (by omega) S (by omega)) rfl ?_
    rintro e w5 ⟨A5, k5, c5, rfl, R5, hk5, ex⟩
    refine ⟨_, rfl, .inr ex, ?_⟩
    replace E := E.ext ex
    replace B := B.ext ex
    replace S := S.ext ex
    replace R4 := R4.ext ex
    have hl5 := lsz_le n
    refine wm_one 5 (by kernel_rfl) ?_; refine om_call rfl Try.func87 rfl rfl rfl (mvec_any A5 h1.A k5 c5 h1.n h1.c _ _ _ R5.bs (by omega) (Bs.ext a1 E) (by omega)) rfl ?_
    rintro e w6 ⟨A6, k6, c6, rfl, R6, hk6, ex⟩
    refine ⟨_, rfl, .inr ex, ?_⟩
    replace E := E.ext ex
    replace B := B.ext ex
    replace S := S.ext ex
    replace R5 := R5.ext ex
    have R7 := R6.congr (ys := (welB x).map bv) rfl (by unfold welB; rw [hxf]; rfl)
    refine wm_y 6 rfl (by kernel_rfl) (y_assign rfl) rfl ?_
    refine wm_done (by kernel_rfl) ?_
    refine wq_nop ?_
    refine wq_then_norm (hK10 ?_)
    refine wc_ret ?_
    refine hret rfl ?_
    exact ⟨A6, k6, c6, rfl, ⟨R7.bs, R6.cap⟩, E⟩
theorem WelcomeBytes_any (w : World) (H : WelAt w cs x) (hf : x.Fit) :
    Calls Try.prog 53 #[.agg cs] w fun e w' => ∃ A k c z, e = .returned (.tuple #[.slice A k c, .int .u8 ((z : Nat) : Int)]) ∧ Told w' (okWel x) (welB x) A k z ∧ k ≤ c ∧ Ext w w' := by
  have HP := H
  have hg := hf.1
  obtain ⟨h0, h1, rfl, a0, a1⟩ := H
  have E := Ext.refl w
  refine vc_enter2 10 Try.func53 rfl rfl rfl rfl ?_
  intro Q hret
  refine wc_seq ?_; intro K1 hK1
  refine wc_region ?_
  refine wl_ef (ef_box rfl rfl) rfl ?_
  rintro _ wB1 ⟨gB1, rfl, B1, hgB1, ex⟩
  have lB1 := B1.lt; have zB1 := ex.size
  replace E := E.ext ex
  refine wl_y (y_assign rfl) rfl ?_
  refine wl_y (y_assign rfl) rfl ?_
  refine wl_nil ?_
  refine wq_then_norm (hK1 ?_)
  refine wc_seq ?_; intro K2 hK2
  refine wc_region ?_
  refine wl_y (y_loadx (o := 0) (s := 2) rfl Try.underlying80 rfl (by kernel_rfl) B1 rfl) rfl ?_
  refine wl_call Try.func123 rfl rfl rfl (rightWelcome_any _ (HP.ext E) (by omega)) rfl ?_
  rintro e w2 ⟨rfl, ex⟩
  refine ⟨_, rfl, ?_⟩
  replace E := E.ext ex
  replace B1 := B1.ext ex
  skip
  refine wl_y (y_func (xs := [.tmp 1]) (vs := [.pointer (some ⟨gB1, 0, none⟩)]) rfl) rfl ?_
  refine wl_call Try.func66 rfl rfl rfl (told_any (us := [.pointer (some ⟨gB1, 0, none⟩)]) (Ψ := fun w A k c => Bs w A k (welB x) ∧ k ≤ c) _ Try.func124 rfl rfl (fun hok w1 e1 => welBytesF w1 (B1.ext e1) ((HP.ext E).ext e1) hf (of_decide_eq_true hok))) rfl ?_
  rintro e w3 ⟨A3, k3, c3, z3, rfl, T3, N3, ex⟩
  refine ⟨_, rfl, ?_⟩
  replace E := E.ext ex
  replace B1 := B1.ext ex
  skip
  refine wl_y (y_extract rfl rfl) rfl ?_
  refine wl_y (y_extract rfl rfl) rfl ?_
  refine wl_y (y_assign rfl) rfl ?_
  refine wl_y (y_assign rfl) rfl ?_
  refine wl_nil ?_
  refine wq_then_norm (hK2 ?_)
  refine wc_ret ?_
  refine hret rfl rfl ?_
  exact ⟨A3, k3, c3, z3, rfl, ⟨fun o => ⟨(T3 (decide_eq_true o)).1, (T3 (decide_eq_true o)).2.1⟩, fun o => ⟨(N3 (decide_eq_false o)).1, (N3 (decide_eq_false o)).2.2.1⟩⟩, (by by_cases o : okWel x; exact (T3 (decide_eq_true o)).2.2; have h := N3 (decide_eq_false o); omega), E⟩
end
end Go.Proofs.Ytpgalbgonmclaaa
