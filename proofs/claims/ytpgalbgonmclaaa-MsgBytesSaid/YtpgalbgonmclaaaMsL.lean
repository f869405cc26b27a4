/- The bytes of commits: what the reference hands back; the law MsgProposals. -/
import Derived.Test.YtpgalbgonmclaaaMsK
namespace Go.Proofs.Ytpgalbgonmclaaa
open Go.RowKit
attribute [local irreducible] Y Ef WL WC WK WQ WM OpM WN WF OpN WG OpG
open Nd Wire
theorem itmB_sm {x : Item20} (h : x.Small) : (itmB rpropB x).length ≤ 1701 := by
  have h2 := vec_le x.ref; have h3 := rpropB_sm h.2; have h4 := h.1
  unfold itmB
  split <;> rw [List.length_cons] <;> omega
theorem bxdB_sm {b : Bxd} (h : b.Small) : (bxdB b).length ≤ 208 := by
  have h2 := vec_le b.enc; have h3 := vec_le b.box; have := h.1; have := h.2
  unfold bxdB
  rw [List.length_append]; omega
theorem stpB_sm {s : Stp} (h : s.Small) : (stpB s).length ≤ 4300 := by
  have h2 := vec_le s.box; have h3 := vec_le (s.to.flatMap bxdB); have := h.1
  have h4 := flatMap_le (l := s.to) (f := bxdB) (B := 208) fun b hb => bxdB_sm (h.2.2 b hb)
  have h5 : s.to.length * 208 ≤ 20 * 208 := Nat.mul_le_mul_right _ h.2.1
  unfold stpB
  rw [List.length_append]; omega
theorem comB_eq {c : Com20} (h : okCom c) : comB rpropB c = comB propB c := by
  have e : c.items.flatMap (itmB rpropB) = c.items.flatMap (itmB propB) := by
    have key : ∀ l : List Item20, (∀ x ∈ l, okItem x) → l.flatMap (itmB rpropB) = l.flatMap (itmB propB) := by
      intro l
      induction l with
      | nil => intro _; rfl
      | cons x l ih =>
        intro hl
        rw [List.flatMap_cons, List.flatMap_cons, ih fun y hy => hl y (List.mem_cons_of_mem _ hy)]
        congr 1
        unfold itmB
        rcases hl x List.mem_cons_self with h | h
        · rw [if_pos (by omega), if_pos (by omega)]
        · rw [if_neg (by omega), if_neg (by omega), rpropB_ok h.2]
    exact key _ h.2.1
  unfold comB
  rw [e]
theorem comB_sm {c : Com20} (h : c.Small) : (comB rpropB c).length ≤ 250000 := by
  obtain ⟨h1, h2, h3, h4, h5⟩ := h
  have i1 := flatMap_le (l := c.items) (f := itmB rpropB) (B := 1701) fun x hx => itmB_sm (h4 x hx)
  have i2 : c.items.length * 1701 ≤ 70 * 1701 := Nat.mul_le_mul_right _ h1
  have i3 := vec_le (c.items.flatMap (itmB rpropB))
  have j1 := flatMap_le (l := c.way.steps) (f := stpB) (B := 4300) fun x hx => stpB_sm (h5 x hx)
  have j2 : c.way.steps.length * 4300 ≤ 20 * 4300 := Nat.mul_le_mul_right _ h2
  have j3 := vec_le (c.way.steps.flatMap stpB)
  have j4 := leafB_sm h3
  unfold comB
  rw [List.length_append]
  split
  · rw [List.length_cons, List.length_append]; omega
  · rw [List.length_singleton]; omega
section
variable {cs : Array Value} {c : Com20} {g : Nat} {t : TypeId}
set_option maxHeartbeats 1000000 in
theorem rcommit_any (w : World) (H : ComAt w cs c) (hs : c.Small) :
    Calls Try.prog 19 #[.agg cs] w fun e w' => ∃ A' k c', e = .returned (.slice A' k c') ∧ Row w' w.heap.size 5 A' k c' ((comB rpropB c).map bv) ∧ Ext w w' := by
  have hf := hs.fit
  obtain ⟨it, h0, h1, h2, q, h4, h5, t, rfl, a1, HW⟩ := H
  have HL := HW.parts
  have l2 := a1.1; have l4 := HL.2.1
  obtain ⟨s1, s2, s3, s4, s5⟩ := hs
  have E := Ext.refl w
  refine vc_enter1 120 Try.func19 rfl rfl rfl rfl ?_
  intro Q hret
  refine wc_seq ?_; intro K1 hK1
  refine wc_region ?_
  refine wl_ef (ef_box rfl rfl) rfl ?_
  rintro _ wB1 ⟨gB1, rfl, B1, hgB1, ex⟩
  have lB1 := B1.lt; have zB1 := ex.size
  replace E := E.ext ex
  refine wl_y (y_assign rfl) rfl ?_
  refine wl_nil ?_
  refine wq_then_norm (hK1 ?_)
  refine wc_seq ?_; intro K2 hK2
  refine wc_region ?_
  refine wl_y (y_assign rfl) rfl ?_
  refine wl_nil ?_
  refine wq_then_norm (hK2 ?_)
  refine wc_seq ?_; intro K3 hK3
  refine wc_seq ?_; intro K4 hK4
  have X := Ext.refl wB1
  have B1o := B1
  refine wc_region ?_
  refine wl_y (y_assign rfl) rfl ?_
  refine wl_nil ?_
  refine wq_then_norm (hK4 ?_)
  refine wc_block ?_
  refine wc_loop (fun n' L wr => ∃ (i : Nat) (A : Option Addr) (n k : Nat) (xs : List UInt8), L = [(1, .pointer (some ⟨gB1, 0, none⟩)), (3, .slice A n k), (4, .int .i64 (i : Int))] ∧ n' = it.n - i ∧ (i ≤ it.n ∧ Ext wB1 wr ∧ Bs wr A n xs ∧ xs = (c.items.take i).flatMap (itmB rpropB))) _ _ ⟨0, none, 0, 0, [], rfl, rfl, by omega, X, Bs.nil _ _, by simp⟩ ⟨rfl, rfl, (by first | rfl | exact congrArg some (int_val (by omega))), trivial⟩ ?_
  rintro KL1 n' L wr ⟨i, A, n, k, xs, rfl, rfl, hi, X, T, hxs⟩ hL1
  have B1 := B1o.ext X
  have hxl : xs.length ≤ i * 1701 := by rw [hxs]; exact flatMap_tk_le i fun x hx => itmB_sm (s4 x hx)
  have hnx := T.1
  refine wc_seq ?_; intro K5 hK5
  refine wc_seq ?_; intro K6 hK6
  refine wc_region ?_
  refine wl_y (y_move rfl) rfl ?_
  refine wl_y (y_fieldAddr (o := 0) (s := 1) (off := 0) (o' := 0) rfl Try.underlying34 rfl (by kernel_rfl) rfl rfl) rfl ?_
  refine wl_y (y_load1 rfl Try.underlying29 rfl (B1.get (i := 0) rfl)) rfl ?_
  refine wl_y (y_len_slice rfl Try.underlying29) rfl ?_
  refine wl_y (y_lss rfl rfl) rfl ?_
  refine wl_nil ?_
  refine wq_then_norm (hK6 ?_)
  refine wc_dec rfl (fun hc1 => ?_) (fun hc1 => ?_)
  · skip
    refine wc_skip ?_
    refine wq_then_norm (hK5 ?_)
    refine wc_seq ?_; intro K7 hK7
    refine wc_block ?_
    refine wc_seq ?_; intro K8 hK8
    obtain ⟨b1, o1, cs1, x, e1, _, hx, hcz, hR, hcx⟩ := (a1.ext (E.ext X) fun _ _ h => ItemAt.ext h (E.ext X)).get2 (by omega) (i := i) (by omega)
    obtain ⟨r, j, k0, k1, k2, p, k4, k5, gg, m0, m1, m2, u, m4, m5, rfl, hr, HP⟩ := hR
    have l5 := hr.1
    have sx := s4 x (ix_mem hx)
    have l6 := sx.1
    have X0 := X
    have Y := Ext.refl wr
    refine wc_region ?_
    refine wl_y (y_fieldAddr (o := 0) (s := 1) (off := 0) (o' := 0) rfl Try.underlying34 rfl (by kernel_rfl) rfl rfl) rfl ?_
    refine wl_y (y_load1 rfl Try.underlying29 rfl (B1.get (i := 0) rfl)) rfl ?_
    refine wl_y (y_move rfl) rfl ?_
    refine wl_y (y_ixsE (s := 17) (j := i) e1 rfl rfl Try.underlying29 (by kernel_rfl) rfl (by omega)) rfl ?_
    refine wl_y (y_fieldAddr (o := 0) (s := 1) rfl Try.underlying106 rfl (by kernel_rfl) rfl rfl) rfl ?_
    refine wl_y (y_load1 rfl Try.underlying22 rfl (hcx 0 _ rfl)) rfl ?_
    refine wl_y (y_len_slice rfl Try.underlying22) rfl ?_
    refine wl_y (y_gtr rfl rfl) rfl ?_
    refine wl_nil ?_
    refine wq_then_norm (hK8 ?_)
    refine wc_dec rfl (fun hc2 => ?_) (fun hc2 => ?_)
    · skip
      refine wc_region ?_
      refine wl_y (y_move rfl) rfl ?_
      refine wl_ef (ef_lit (z := .int .u8 0) Try.underlying22 (by kernel_rfl) rfl rfl rfl rfl rfl) rfl ?_
      rintro _ w2 ⟨g2, rfl, B2, hg2, ex⟩
      replace X := X.ext ex
      replace T := T.ext ex
      replace B1 := B1.ext ex
      replace Y := Y.ext ex
      have H2 := bs_blk' (xs := [(2 : UInt8)]) (B2.congr (by rfl)) rfl
      refine wl_y (y_fieldAddr (o := 0) (s := 1) (off := 0) (o' := 0) rfl Try.underlying34 rfl (by kernel_rfl) rfl rfl) rfl ?_
      refine wl_y (y_load1 rfl Try.underlying29 rfl (B1.get (i := 0) rfl)) rfl ?_
      refine wl_y (y_move rfl) rfl ?_
      refine wl_y (y_ixsE (s := 17) (j := i) e1 rfl rfl Try.underlying29 (by kernel_rfl) rfl (by omega)) rfl ?_
      refine wl_y (y_fieldAddr (o := 0) (s := 1) rfl Try.underlying106 rfl (by kernel_rfl) rfl rfl) rfl ?_
      refine wl_y (y_load1 rfl Try.underlying22 rfl (Y.cellE (hcx 0 _ rfl))) rfl ?_
      refine wl_call Try.func82 rfl rfl rfl (vec20_any r.A r.n r.c _ _ (Bs.ext hr Y) (by omega)) rfl ?_
      rintro e w4 ⟨A4, k4, c4, rfl, R4, hk4, ex⟩
      refine ⟨_, rfl, ?_⟩
      replace X := X.ext ex
      replace T := T.ext ex
      replace B1 := B1.ext ex
      replace Y := Y.ext ex
      replace H2 := H2.ext ex
      have hl4 := lsz_le r.n
      refine wl_call Try.func81 rfl rfl rfl (three20_any A _ A4 n k _ _ k4 c4 _ _ _ _ T (by omega) H2 (by omega) R4.bs (by omega)) rfl ?_
      rintro e w5 ⟨A5, c5, rfl, R5, ex⟩
      refine ⟨_, rfl, ?_⟩
      replace X := X.ext ex
      replace T := T.ext ex
      replace B1 := B1.ext ex
      replace Y := Y.ext ex
      replace H2 := H2.ext ex
      replace R4 := R4.ext ex
      skip
      refine wl_y (y_assign rfl) rfl ?_
      refine wl_nil ?_
      refine wq_blk_norm ?_
      refine wq_then_norm (hK7 ?_)
      refine wc_region ?_
      refine wl_y (y_move rfl) rfl ?_
      refine wl_y (y_add rfl rfl (i64_ok (by omega) (by omega))) rfl ?_
      refine wl_y (y_assign rfl) rfl ?_
      refine wl_nil ?_
      refine wq_then_norm ?_
      refine hL1 _ _ ⟨i + 1, A5, _, c5, xs ++ [2] ++ vec x.ref, rfl, rfl, by omega, X, R5.bs, by rw [flatMap_take hx, ← hxs]; unfold itmB; rw [if_pos (by omega)]; simp⟩ (by omega) ⟨rfl, rfl, (by first | rfl | exact congrArg some (int_val (by omega))), trivial⟩
    · skip
      refine wc_region ?_
      refine wl_y (y_move rfl) rfl ?_
      refine wl_ef (ef_lit (z := .int .u8 0) Try.underlying22 (by kernel_rfl) rfl rfl rfl rfl rfl) rfl ?_
      rintro _ w2 ⟨g2, rfl, B2, hg2, ex⟩
      replace X := X.ext ex
      replace T := T.ext ex
      replace B1 := B1.ext ex
      replace Y := Y.ext ex
      have H2 := bs_blk' (xs := [(1 : UInt8)]) (B2.congr (by rfl)) rfl
      refine wl_y (y_fieldAddr (o := 0) (s := 1) (off := 0) (o' := 0) rfl Try.underlying34 rfl (by kernel_rfl) rfl rfl) rfl ?_
      refine wl_y (y_load1 rfl Try.underlying29 rfl (B1.get (i := 0) rfl)) rfl ?_
      refine wl_y (y_move rfl) rfl ?_
      refine wl_y (y_ixsE (s := 17) (j := i) e1 rfl rfl Try.underlying29 (by kernel_rfl) rfl (by omega)) rfl ?_
      refine wl_y (y_fieldAddr (o := 1) (s := 16) rfl Try.underlying106 rfl (by kernel_rfl) rfl rfl) rfl ?_
      refine wl_y (y_loadp (cs := propV x.prop.kind j k0 k1 k2 p k4 k5 gg m0 m1 m2 u m4 m5 x.prop.at_) rfl Try.underlying28 rfl (by kernel_rfl) fun j' v hv => by rw [Addr.add_plain, Nat.add_assoc, Nat.add_comm 1 j']; exact Y.cellE (hcx (j' + 1) v (itm_prop hv))) rfl ?_
      refine wl_call Try.func17 rfl rfl rfl (rpropBytes_any _ (HP.ext Y) sx.2) rfl ?_
      rintro e w4 ⟨A4, k4, c4, rfl, R4, ex⟩
      refine ⟨_, rfl, ?_⟩
      replace X := X.ext ex
      replace T := T.ext ex
      replace B1 := B1.ext ex
      replace Y := Y.ext ex
      replace H2 := H2.ext ex
      have hk4 := R4.bs.1; have hp4 := rpropB_sm sx.2
      refine wl_call Try.func81 rfl rfl rfl (three20_any A _ A4 n k _ _ k4 c4 _ _ _ _ T (by omega) H2 (by omega) R4.bs (by omega)) rfl ?_
      rintro e w5 ⟨A5, c5, rfl, R5, ex⟩
      refine ⟨_, rfl, ?_⟩
      replace X := X.ext ex
      replace T := T.ext ex
      replace B1 := B1.ext ex
      replace Y := Y.ext ex
      replace H2 := H2.ext ex
      replace R4 := R4.ext ex
      skip
      refine wl_y (y_assign rfl) rfl ?_
      refine wl_nil ?_
      refine wq_blk_norm ?_
      refine wq_then_norm (hK7 ?_)
      refine wc_region ?_
      refine wl_y (y_move rfl) rfl ?_
      refine wl_y (y_add rfl rfl (i64_ok (by omega) (by omega))) rfl ?_
      refine wl_y (y_assign rfl) rfl ?_
      refine wl_nil ?_
      refine wq_then_norm ?_
      refine hL1 _ _ ⟨i + 1, A5, _, c5, xs ++ [1] ++ rpropB x.prop, rfl, rfl, by omega, X, R5.bs, by rw [flatMap_take hx, ← hxs]; unfold itmB; rw [if_neg (by omega)]; simp⟩ (by omega) ⟨rfl, rfl, (by first | rfl | exact congrArg some (int_val (by omega))), trivial⟩
  · skip
    refine wc_exit ?_
    refine wq_then_exit ?_
    refine wq_then_exit ?_
    refine wq_blk_hit ?_
    refine wq_then_norm (hK3 ?_)
    refine wc_seq ?_; intro K9 hK9
    refine wc_seq ?_; intro K10 hK10
    have hxf : xs = c.items.flatMap (itmB rpropB) := by rw [hxs, flatMap_full (by omega)]
    refine wc_region ?_
    refine wl_y (y_fieldAddr (o := 1) (s := 1) (off := 0) (o' := 1) rfl Try.underlying34 rfl (by kernel_rfl) rfl rfl) rfl ?_
    refine wl_y (y_load1 rfl Try.underlying4 rfl (B1.get (i := 1) rfl)) rfl ?_
    refine wl_y (y_not rfl) rfl ?_
    refine wl_nil ?_
    refine wq_then_norm (hK10 ?_)
    refine wc_cond rfl (fun hc3 => ?_) (fun hc3 => ?_)
    · skip
      refine wc_seq ?_; intro K11 hK11
      refine wc_region ?_
      refine wl_y (y_move rfl) rfl ?_
      refine wl_call Try.func82 rfl rfl rfl (vec20_any A n k _ _ T (by omega)) rfl ?_
      rintro e w4 ⟨A4, k4, c4, rfl, R4, hk4, ex⟩
      refine ⟨_, rfl, ?_⟩
      replace X := X.ext ex
      replace T := T.ext ex
      replace B1 := B1.ext ex
      have hl4 := lsz_le n
      refine wl_ef (ef_lit (z := .int .u8 0) Try.underlying22 (by kernel_rfl) rfl rfl rfl rfl rfl) rfl ?_
      rintro _ w2 ⟨g2, rfl, B2, hg2, ex⟩
      replace X := X.ext ex
      replace T := T.ext ex
      replace B1 := B1.ext ex
      replace R4 := R4.ext ex
      have H2 := bs_blk' (xs := [(0 : UInt8)]) (B2.congr (by rfl)) rfl
      have hz := (E.ext X).size
      refine wl_call Try.func76 rfl rfl rfl (join20_any A4 _ k4 c4 _ _ _ _ _ R4.bs (by omega) H2 (by omega)) rfl ?_
      rintro e w5 ⟨A5, c5, rfl, R5, ex⟩
      refine ⟨_, rfl, ?_⟩
      replace X := X.ext ex
      replace T := T.ext ex
      replace B1 := B1.ext ex
      replace R4 := R4.ext ex
      replace H2 := H2.ext ex
      skip
      refine wl_y (y_assign rfl) rfl ?_
      refine wl_nil ?_
      refine wq_then_norm (hK11 ?_)
      refine wc_ret ?_
      refine wq_then_ret ?_
      refine hret rfl ?_
      exact ⟨A5, _, c5, rfl, (R5.lower hz).congr rfl (by unfold comB; rw [← hxf, if_neg (by simpa using hc3)]), E.ext X⟩
    · skip
      refine wc_skip ?_
      refine wq_then_norm (hK9 ?_)
      refine wc_seq ?_; intro K12 hK12
      have hh : c.has = true := by simpa using hc3
      refine wc_region ?_
      refine wl_y (y_assign rfl) rfl ?_
      refine wl_nil ?_
      refine wq_then_norm (hK12 ?_)
      refine wc_seq ?_; intro K13 hK13
      refine wc_seq ?_; intro K14 hK14
      refine wc_region ?_
      refine wl_y (y_assign rfl) rfl ?_
      refine wl_nil ?_
      refine wq_then_norm (hK14 ?_)
      refine wc_block ?_
      refine wc_loop (fun n' L wr => ∃ (i : Nat) (S : Option Addr) (sn sk : Nat) (ss : List UInt8), L = [(1, .pointer (some ⟨gB1, 0, none⟩)), (3, .slice A n k), (5, .slice S sn sk), (6, .int .i64 (i : Int))] ∧ n' = t.n - i ∧ (i ≤ t.n ∧ Ext wB1 wr ∧ Bs wr A n xs ∧ Bs wr S sn ss ∧ ss = (c.way.steps.take i).flatMap stpB)) _ _ ⟨0, none, 0, 0, [], rfl, rfl, by omega, X, T, Bs.nil _ _, by simp⟩ ⟨rfl, rfl, rfl, (by first | rfl | exact congrArg some (int_val (by omega))), trivial⟩ ?_
      rintro KL2 n' L wr ⟨i, S, sn, sk, ss, rfl, rfl, hi, X, T, V, hss⟩ hL2
      have B1 := B1o.ext X
      have hsl : ss.length ≤ i * 4300 := by rw [hss]; exact flatMap_tk_le i fun x hx => stpB_sm (s5 x hx)
      have hns := V.1
      refine wc_seq ?_; intro K15 hK15
      refine wc_seq ?_; intro K16 hK16
      refine wc_region ?_
      refine wl_y (y_move rfl) rfl ?_
      refine wl_y (y_fieldAddr (o := 2) (s := 7) (off := 0) (o' := 2) rfl Try.underlying34 rfl (by kernel_rfl) rfl rfl) rfl ?_
      refine wl_y (y_fieldAddr (o := 6) (s := 1) (off := 2) (o' := 8) rfl Try.underlying32 rfl (by kernel_rfl) rfl rfl) rfl ?_
      refine wl_y (y_load1 rfl Try.underlying30 rfl (B1.get (i := 8) rfl)) rfl ?_
      refine wl_y (y_len_slice rfl Try.underlying30) rfl ?_
      refine wl_y (y_lss rfl rfl) rfl ?_
      refine wl_nil ?_
      refine wq_then_norm (hK16 ?_)
      refine wc_dec rfl (fun hc4 => ?_) (fun hc4 => ?_)
      · skip
        refine wc_skip ?_
        refine wq_then_norm (hK15 ?_)
        refine wc_seq ?_; intro K17 hK17
        refine wc_block ?_
        refine wc_seq ?_; intro K18 hK18
        obtain ⟨b1, o1, cs1, x, e1, _, hx, hcz, hR, hcx⟩ := HL.2.get2 (by omega) (i := i) (by omega)
        obtain ⟨g0, g1, rfl, u0, u1⟩ := hR
        have l5 := u0.1; have l6 := u1.1
        have sx := s5 x (ix_mem hx)
        have l7 := sx.1; have l8 := sx.2.1
        refine wc_region ?_
        refine wl_y (y_assign rfl) rfl ?_
        refine wl_nil ?_
        refine wq_then_norm (hK18 ?_)
        refine wc_seq ?_; intro K19 hK19
        refine wc_seq ?_; intro K20 hK20
        refine wc_region ?_
        refine wl_y (y_assign rfl) rfl ?_
        refine wl_nil ?_
        refine wq_then_norm (hK20 ?_)
        refine wc_block ?_
        refine wc_loop (fun n' L wq => ∃ (k2 : Nat) (A2 : Option Addr) (n2 c2 : Nat) (ts : List UInt8), L = [(1, .pointer (some ⟨gB1, 0, none⟩)), (3, .slice A n k), (5, .slice S sn sk), (6, .int .i64 (i : Int)), (7, .slice A2 n2 c2), (8, .int .i64 (k2 : Int))] ∧ n' = g1.n - k2 ∧ (k2 ≤ g1.n ∧ Ext wB1 wq ∧ Bs wq A n xs ∧ Bs wq S sn ss ∧ Bs wq A2 n2 ts ∧ ts = (x.to.take k2).flatMap bxdB)) _ _ ⟨0, none, 0, 0, [], rfl, rfl, by omega, X, T, V, Bs.nil _ _, by simp⟩ ⟨rfl, rfl, rfl, (by first | rfl | exact congrArg some (int_val (by omega))), rfl, (by first | rfl | exact congrArg some (int_val (by omega))), trivial⟩ ?_
        rintro KL3 n' L wq ⟨k2, A2, n2, c2, ts, rfl, rfl, hk2, X, T, V, U, hts⟩ hL3
        have B1 := B1o.ext X
        have htl : ts.length ≤ k2 * 208 := by rw [hts]; exact flatMap_tk_le k2 fun x hx => bxdB_sm (sx.2.2 x hx)
        have hnt := U.1
        refine wc_seq ?_; intro K21 hK21
        refine wc_seq ?_; intro K22 hK22
        refine wc_region ?_
        refine wl_y (y_move rfl) rfl ?_
        refine wl_y (y_fieldAddr (o := 2) (s := 7) (off := 0) (o' := 2) rfl Try.underlying34 rfl (by kernel_rfl) rfl rfl) rfl ?_
        refine wl_y (y_fieldAddr (o := 6) (s := 1) (off := 2) (o' := 8) rfl Try.underlying32 rfl (by kernel_rfl) rfl rfl) rfl ?_
        refine wl_y (y_load1 rfl Try.underlying30 rfl (B1.get (i := 8) rfl)) rfl ?_
        refine wl_y (y_move rfl) rfl ?_
        refine wl_y (y_ixsE (s := 2) (j := i) e1 rfl rfl Try.underlying30 (by kernel_rfl) rfl (by omega)) rfl ?_
        refine wl_y (y_fieldAddr (o := 1) (s := 1) rfl Try.underlying109 rfl (by kernel_rfl) rfl rfl) rfl ?_
        refine wl_y (y_load1 rfl Try.underlying107 rfl ((E.ext X).cellE (hcx 1 _ rfl))) rfl ?_
        refine wl_y (y_len_slice rfl Try.underlying107) rfl ?_
        refine wl_y (y_lss rfl rfl) rfl ?_
        refine wl_nil ?_
        refine wq_then_norm (hK22 ?_)
        refine wc_dec rfl (fun hc5 => ?_) (fun hc5 => ?_)
        · skip
          refine wc_skip ?_
          refine wq_then_norm (hK21 ?_)
          refine wc_seq ?_; intro K23 hK23
          refine wc_block ?_
          obtain ⟨b2, o2, cs2, z, e2, _, hz, hcz2, hR2, hcx2⟩ := u1.get2 (by omega) (i := k2) (by omega)
          obtain ⟨f0, f1, rfl, v0, v1⟩ := hR2
          have sz := sx.2.2 z (ix_mem hz)
          have m0 := v0.1; have m1 := v1.1; have m2 := sz.1; have m3 := sz.2
          refine wc_draw (by kernel_rfl) 27 rfl ?_; intro wd18 ex hd18
          replace X := X.ext ex
          replace T := T.ext ex
          replace V := V.ext ex
          replace U := U.ext ex
          replace B1 := B1.ext ex
          refine wm_y 0 rfl (by kernel_rfl) (y_move rfl) rfl ?_
          refine wm_y 1 rfl (by kernel_rfl) (y_fieldAddr (o := 2) (s := 7) (off := 0) (o' := 2) rfl Try.underlying34 rfl (by kernel_rfl) rfl rfl) rfl ?_
          refine wm_y 2 rfl (by kernel_rfl) (y_fieldAddr (o := 6) (s := 1) (off := 2) (o' := 8) rfl Try.underlying32 rfl (by kernel_rfl) rfl rfl) rfl ?_
          refine wm_y 3 rfl (by kernel_rfl) (y_load1 rfl Try.underlying30 rfl (B1.get (i := 8) rfl)) rfl ?_
          refine wm_y 4 rfl (by kernel_rfl) (y_move rfl) rfl ?_
          refine wm_y 5 rfl (by kernel_rfl) (y_ixsE (s := 2) (j := i) e1 rfl rfl Try.underlying30 (by kernel_rfl) rfl (by omega)) rfl ?_
          refine wm_y 6 rfl (by kernel_rfl) (y_fieldAddr (o := 1) (s := 1) rfl Try.underlying109 rfl (by kernel_rfl) rfl rfl) rfl ?_
          refine wm_y 7 rfl (by kernel_rfl) (y_load1 rfl Try.underlying107 rfl ((E.ext X).cellE (hcx 1 _ rfl))) rfl ?_
          refine wm_y 8 rfl (by kernel_rfl) (y_move rfl) rfl ?_
          refine wm_y 9 rfl (by kernel_rfl) (y_ixsE (s := 2) (j := k2) e2 rfl rfl Try.underlying107 (by kernel_rfl) rfl (by omega)) rfl ?_
          refine wm_y 10 rfl (by kernel_rfl) (y_fieldAddr (o := 0) (s := 1) rfl Try.underlying111 rfl (by kernel_rfl) rfl rfl) rfl ?_
          refine wm_y 11 rfl (by kernel_rfl) (y_load1 rfl Try.underlying22 rfl ((E.ext X).cellE (hcx2 0 _ rfl))) rfl ?_
          refine wm_y 13 rfl (by kernel_rfl) (y_fieldAddr (o := 2) (s := 7) (off := 0) (o' := 2) rfl Try.underlying34 rfl (by kernel_rfl) rfl rfl) rfl ?_
          refine wm_y 14 rfl (by kernel_rfl) (y_fieldAddr (o := 6) (s := 1) (off := 2) (o' := 8) rfl Try.underlying32 rfl (by kernel_rfl) rfl rfl) rfl ?_
          refine wm_y 15 rfl (by kernel_rfl) (y_load1 rfl Try.underlying30 rfl (B1.get (i := 8) rfl)) rfl ?_
          refine wm_y 16 rfl (by kernel_rfl) (y_move rfl) rfl ?_
          refine wm_y 17 rfl (by kernel_rfl) (y_ixsE (s := 2) (j := i) e1 rfl rfl Try.underlying30 (by kernel_rfl) rfl (by omega)) rfl ?_
          refine wm_y 18 rfl (by kernel_rfl) (y_fieldAddr (o := 1) (s := 1) rfl Try.underlying109 rfl (by kernel_rfl) rfl rfl) rfl ?_
          refine wm_y 19 rfl (by kernel_rfl) (y_load1 rfl Try.underlying107 rfl ((E.ext X).cellE (hcx 1 _ rfl))) rfl ?_
          refine wm_y 20 rfl (by kernel_rfl) (y_move rfl) rfl ?_
          refine wm_y 21 rfl (by kernel_rfl) (y_ixsE (s := 2) (j := k2) e2 rfl rfl Try.underlying107 (by kernel_rfl) rfl (by omega)) rfl ?_
          refine wm_y 22 rfl (by kernel_rfl) (y_fieldAddr (o := 1) (s := 1) rfl Try.underlying111 rfl (by kernel_rfl) rfl rfl) rfl ?_
          refine wm_y 23 rfl (by kernel_rfl) (y_load1 rfl Try.underlying22 rfl ((E.ext X).cellE (hcx2 1 _ rfl))) rfl ?_
          refine wm_one 12 (by kernel_rfl) ?_; refine om_call rfl Try.func82 rfl rfl rfl (vec20_any f0.A f0.n f0.c _ _ (Bs.ext v0 (E.ext X)) (by omega)) rfl ?_
          rintro e w4 ⟨A4, k4, c4, rfl, R4, hk4, ex⟩
          refine ⟨_, rfl, .inr ex, ?_⟩
          replace X := X.ext ex
          replace T := T.ext ex
          replace V := V.ext ex
          replace U := U.ext ex
          replace B1 := B1.ext ex
          have hl4 := lsz_le f0.n
          refine wm_one 24 (by kernel_rfl) ?_; refine om_call rfl Try.func82 rfl rfl rfl (vec20_any f1.A f1.n f1.c _ _ (Bs.ext v1 (E.ext X)) (by omega)) rfl ?_
          rintro e w5 ⟨A5, k5, c5, rfl, R5, hk5, ex⟩
          refine ⟨_, rfl, .inr ex, ?_⟩
          replace X := X.ext ex
          replace T := T.ext ex
          replace V := V.ext ex
          replace U := U.ext ex
          replace B1 := B1.ext ex
          replace R4 := R4.ext ex
          have hl5 := lsz_le f1.n
          refine wm_one 25 (by kernel_rfl) ?_; refine om_call rfl Try.func81 rfl rfl rfl (three20_any A2 A4 A5 n2 c2 k4 c4 k5 c5 _ _ _ _ U (by omega) R4.bs (by omega) R5.bs (by omega)) rfl ?_
          rintro e w6 ⟨A6, c6, rfl, R6, ex⟩
          refine ⟨_, rfl, .inr ex, ?_⟩
          replace X := X.ext ex
          replace T := T.ext ex
          replace V := V.ext ex
          replace U := U.ext ex
          replace B1 := B1.ext ex
          replace R4 := R4.ext ex
          replace R5 := R5.ext ex
          skip
          refine wm_y 26 rfl (by kernel_rfl) (y_assign rfl) rfl ?_
          refine wm_done (by kernel_rfl) ?_
          refine wq_nop ?_
          refine wq_blk_norm ?_
          refine wq_then_norm (hK23 ?_)
          refine wc_region ?_
          refine wl_y (y_move rfl) rfl ?_
          refine wl_y (y_add rfl rfl (i64_ok (by omega) (by omega))) rfl ?_
          refine wl_y (y_assign rfl) rfl ?_
          refine wl_nil ?_
          refine wq_then_norm ?_
          refine hL3 _ _ ⟨k2 + 1, A6, _, c6, ts ++ vec z.enc ++ vec z.box, rfl, rfl, by omega, X, T, V, R6.bs, by rw [flatMap_take hz, ← hts]; unfold bxdB; simp⟩ (by omega) ⟨rfl, rfl, rfl, (by first | rfl | exact congrArg some (int_val (by omega))), rfl, (by first | rfl | exact congrArg some (int_val (by omega))), trivial⟩
        · skip
          refine wc_exit ?_
          refine wq_then_exit ?_
          refine wq_then_exit ?_
          refine wq_blk_hit ?_
          refine wq_then_norm (hK19 ?_)
          have htf : ts = x.to.flatMap bxdB := by rw [hts, flatMap_full (by omega)]
          refine wc_region ?_
          refine wl_y (y_move rfl) rfl ?_
          refine wl_y (y_fieldAddr (o := 2) (s := 7) (off := 0) (o' := 2) rfl Try.underlying34 rfl (by kernel_rfl) rfl rfl) rfl ?_
          refine wl_y (y_fieldAddr (o := 6) (s := 1) (off := 2) (o' := 8) rfl Try.underlying32 rfl (by kernel_rfl) rfl rfl) rfl ?_
          refine wl_y (y_load1 rfl Try.underlying30 rfl (B1.get (i := 8) rfl)) rfl ?_
          refine wl_y (y_move rfl) rfl ?_
          refine wl_y (y_ixsE (s := 2) (j := i) e1 rfl rfl Try.underlying30 (by kernel_rfl) rfl (by omega)) rfl ?_
          refine wl_y (y_fieldAddr (o := 0) (s := 1) rfl Try.underlying109 rfl (by kernel_rfl) rfl rfl) rfl ?_
          refine wl_y (y_load1 rfl Try.underlying22 rfl ((E.ext X).cellE (hcx 0 _ rfl))) rfl ?_
          refine wl_call Try.func82 rfl rfl rfl (vec20_any g0.A g0.n g0.c _ _ (Bs.ext u0 (E.ext X)) (by omega)) rfl ?_
          rintro e w4 ⟨A4, k4, c4, rfl, R4, hk4, ex⟩
          refine ⟨_, rfl, ?_⟩
          replace X := X.ext ex
          replace T := T.ext ex
          replace V := V.ext ex
          replace U := U.ext ex
          replace B1 := B1.ext ex
          have hl4 := lsz_le g0.n
          refine wl_y (y_move rfl) rfl ?_
          refine wl_call Try.func82 rfl rfl rfl (vec20_any A2 n2 c2 _ _ U (by omega)) rfl ?_
          rintro e w5 ⟨A5, k5, c5, rfl, R5, hk5, ex⟩
          refine ⟨_, rfl, ?_⟩
          replace X := X.ext ex
          replace T := T.ext ex
          replace V := V.ext ex
          replace U := U.ext ex
          replace B1 := B1.ext ex
          replace R4 := R4.ext ex
          have hl5 := lsz_le n2
          refine wl_call Try.func81 rfl rfl rfl (three20_any S A4 A5 sn sk k4 c4 k5 c5 _ _ _ _ V (by omega) R4.bs (by omega) R5.bs (by omega)) rfl ?_
          rintro e w6 ⟨A6, c6, rfl, R6, ex⟩
          refine ⟨_, rfl, ?_⟩
          replace X := X.ext ex
          replace T := T.ext ex
          replace V := V.ext ex
          replace U := U.ext ex
          replace B1 := B1.ext ex
          replace R4 := R4.ext ex
          replace R5 := R5.ext ex
          skip
          refine wl_y (y_assign rfl) rfl ?_
          refine wl_nil ?_
          refine wq_blk_norm ?_
          refine wq_then_norm (hK17 ?_)
          refine wc_region ?_
          refine wl_y (y_move rfl) rfl ?_
          refine wl_y (y_add rfl rfl (i64_ok (by omega) (by omega))) rfl ?_
          refine wl_y (y_assign rfl) rfl ?_
          refine wl_nil ?_
          refine wq_then_norm ?_
          refine hL2 _ _ ⟨i + 1, A6, _, c6, ss ++ vec x.box ++ vec ts, rfl, rfl, by omega, X, T, R6.bs, by rw [flatMap_take hx, ← hss]; unfold stpB; rw [← htf]; simp⟩ (by omega) ⟨rfl, rfl, rfl, (by first | rfl | exact congrArg some (int_val (by omega))), trivial⟩
      · skip
        refine wc_exit ?_
        refine wq_then_exit ?_
        refine wq_then_exit ?_
        refine wq_blk_hit ?_
        refine wq_then_norm (hK13 ?_)
        refine wc_seq ?_; intro K24 hK24
        have hsf : ss = c.way.steps.flatMap stpB := by rw [hss, flatMap_full (by omega)]
        have hlb := leafB_sm s3
        refine wc_draw (by kernel_rfl) 12 rfl ?_; intro wd20 ex hd20
        replace X := X.ext ex
        replace T := T.ext ex
        replace V := V.ext ex
        replace B1 := B1.ext ex
        refine wm_y 0 rfl (by kernel_rfl) (y_move rfl) rfl ?_
        refine wm_y 3 rfl (by kernel_rfl) (y_fieldAddr (o := 2) (s := 7) (off := 0) (o' := 2) rfl Try.underlying34 rfl (by kernel_rfl) rfl rfl) rfl ?_
        refine wm_y 4 rfl (by kernel_rfl) (y_fieldAddr (o := 0) (s := 6) (off := 2) (o' := 2) rfl Try.underlying32 rfl (by kernel_rfl) rfl rfl) rfl ?_
        refine wm_y 5 rfl (by kernel_rfl) (y_loadx (o := 2) (s := 6) rfl Try.underlying24 rfl (by kernel_rfl) B1 rfl) rfl ?_
        refine wm_y 8 rfl (by kernel_rfl) (y_move rfl) rfl ?_
        refine wm_two 1 2 (by kernel_rfl) ?_ ?_
        · skip
          refine om_call rfl Try.func82 rfl rfl rfl (vec20_any A n k _ _ T (by omega)) rfl ?_
          rintro e w4 ⟨A4, k4, c4, rfl, R4, hk4, ex⟩
          refine ⟨_, rfl, .inr ex, ?_⟩
          replace X := X.ext ex
          replace T := T.ext ex
          replace V := V.ext ex
          replace B1 := B1.ext ex
          have hl4 := lsz_le n
          refine wm_two 2 6 (by kernel_rfl) ?_ ?_
          · skip
            refine om_ef rfl (ef_lit (z := .int .u8 0) Try.underlying22 (by kernel_rfl) rfl rfl rfl rfl rfl) rfl ?_
            rintro _ w2 ⟨g2, rfl, B2, hg2, ex⟩
            refine ⟨.inr ex, ?_⟩
            replace X := X.ext ex
            replace T := T.ext ex
            replace V := V.ext ex
            replace B1 := B1.ext ex
            replace R4 := R4.ext ex
            have H2 := bs_blk' (xs := [(1 : UInt8)]) (B2.congr (by rfl)) rfl
            refine wm_one 6 (by kernel_rfl) ?_; refine om_call rfl Try.func77 rfl rfl rfl (rleafBytes_any _ (HL.1.ext (E.ext X)) hf.2.2.1) rfl ?_
            rintro e w6 ⟨A6, k6, c6, rfl, R6, ex⟩
            refine ⟨_, rfl, .inr ex, ?_⟩
            replace X := X.ext ex
            replace T := T.ext ex
            replace V := V.ext ex
            replace B1 := B1.ext ex
            replace R4 := R4.ext ex
            replace H2 := H2.ext ex
            have hk6 := R6.bs.1
            refine wm_one 7 (by kernel_rfl) ?_; refine om_call rfl Try.func81 rfl rfl rfl (three20_any A4 _ A6 k4 c4 _ _ k6 c6 _ _ _ _ R4.bs (by omega) H2 (by omega) R6.bs (by omega)) rfl ?_
            rintro e w7 ⟨A7, c7, rfl, R7, ex⟩
            refine ⟨_, rfl, .inr ex, ?_⟩
            replace X := X.ext ex
            replace T := T.ext ex
            replace V := V.ext ex
            replace B1 := B1.ext ex
            replace R4 := R4.ext ex
            replace H2 := H2.ext ex
            replace R6 := R6.ext ex
            skip
            refine wm_one 9 (by kernel_rfl) ?_; refine om_call rfl Try.func82 rfl rfl rfl (vec20_any S sn sk _ _ V (by omega)) rfl ?_
            rintro e w8 ⟨A8, k8, c8, rfl, R8, hk8, ex⟩
            refine ⟨_, rfl, .inr ex, ?_⟩
            replace X := X.ext ex
            replace T := T.ext ex
            replace V := V.ext ex
            replace B1 := B1.ext ex
            replace R4 := R4.ext ex
            replace H2 := H2.ext ex
            replace R6 := R6.ext ex
            replace R7 := R7.ext ex
            have hl8 := lsz_le sn
            have hz := (E.ext X).size
            refine wm_one 10 (by kernel_rfl) ?_; refine om_call rfl Try.func76 rfl rfl rfl (join20_any A7 A8 _ c7 k8 c8 _ _ _ R7.bs (by omega) R8.bs (by omega)) rfl ?_
            rintro e w9 ⟨A9, c9, rfl, R9, ex⟩
            refine ⟨_, rfl, .inr ex, ?_⟩
            replace X := X.ext ex
            replace T := T.ext ex
            replace V := V.ext ex
            replace B1 := B1.ext ex
            replace R4 := R4.ext ex
            replace H2 := H2.ext ex
            replace R6 := R6.ext ex
            replace R7 := R7.ext ex
            replace R8 := R8.ext ex
            skip
            refine wm_y 11 rfl (by kernel_rfl) (y_assign rfl) rfl ?_
            refine wm_done (by kernel_rfl) ?_
            refine wq_nop ?_
            refine wq_then_norm (hK24 ?_)
            refine wc_ret ?_
            refine hret rfl ?_
            exact ⟨A9, _, c9, rfl, (R9.lower hz).congr rfl (by unfold comB; rw [← hxf, if_pos hh, ← hsf]; simp), E.ext X⟩
          · skip
            refine om_call rfl Try.func77 rfl rfl rfl (rleafBytes_any _ (HL.1.ext (E.ext X)) hf.2.2.1) rfl ?_
            rintro e w6 ⟨A6, k6, c6, rfl, R6, ex⟩
            refine ⟨_, rfl, .inr ex, ?_⟩
            replace X := X.ext ex
            replace T := T.ext ex
            replace V := V.ext ex
            replace B1 := B1.ext ex
            replace R4 := R4.ext ex
            have hk6 := R6.bs.1
            refine wm_one 2 (by kernel_rfl) ?_; refine om_ef rfl (ef_lit (z := .int .u8 0) Try.underlying22 (by kernel_rfl) rfl rfl rfl rfl rfl) rfl ?_
            rintro _ w2 ⟨g2, rfl, B2, hg2, ex⟩
            refine ⟨.inr ex, ?_⟩
            replace X := X.ext ex
            replace T := T.ext ex
            replace V := V.ext ex
            replace B1 := B1.ext ex
            replace R4 := R4.ext ex
            replace R6 := R6.ext ex
            have H2 := bs_blk' (xs := [(1 : UInt8)]) (B2.congr (by rfl)) rfl
            refine wm_one 7 (by kernel_rfl) ?_; refine om_call rfl Try.func81 rfl rfl rfl (three20_any A4 _ A6 k4 c4 _ _ k6 c6 _ _ _ _ R4.bs (by omega) H2 (by omega) R6.bs (by omega)) rfl ?_
            rintro e w7 ⟨A7, c7, rfl, R7, ex⟩
            refine ⟨_, rfl, .inr ex, ?_⟩
            replace X := X.ext ex
            replace T := T.ext ex
            replace V := V.ext ex
            replace B1 := B1.ext ex
            replace R4 := R4.ext ex
            replace R6 := R6.ext ex
            replace H2 := H2.ext ex
            skip
            refine wm_one 9 (by kernel_rfl) ?_; refine om_call rfl Try.func82 rfl rfl rfl (vec20_any S sn sk _ _ V (by omega)) rfl ?_
            rintro e w8 ⟨A8, k8, c8, rfl, R8, hk8, ex⟩
            refine ⟨_, rfl, .inr ex, ?_⟩
            replace X := X.ext ex
            replace T := T.ext ex
            replace V := V.ext ex
            replace B1 := B1.ext ex
            replace R4 := R4.ext ex
            replace R6 := R6.ext ex
            replace H2 := H2.ext ex
            replace R7 := R7.ext ex
            have hl8 := lsz_le sn
            have hz := (E.ext X).size
            refine wm_one 10 (by kernel_rfl) ?_; refine om_call rfl Try.func76 rfl rfl rfl (join20_any A7 A8 _ c7 k8 c8 _ _ _ R7.bs (by omega) R8.bs (by omega)) rfl ?_
            rintro e w9 ⟨A9, c9, rfl, R9, ex⟩
            refine ⟨_, rfl, .inr ex, ?_⟩
            replace X := X.ext ex
            replace T := T.ext ex
            replace V := V.ext ex
            replace B1 := B1.ext ex
            replace R4 := R4.ext ex
            replace R6 := R6.ext ex
            replace H2 := H2.ext ex
            replace R7 := R7.ext ex
            replace R8 := R8.ext ex
            skip
            refine wm_y 11 rfl (by kernel_rfl) (y_assign rfl) rfl ?_
            refine wm_done (by kernel_rfl) ?_
            refine wq_nop ?_
            refine wq_then_norm (hK24 ?_)
            refine wc_ret ?_
            refine hret rfl ?_
            exact ⟨A9, _, c9, rfl, (R9.lower hz).congr rfl (by unfold comB; rw [← hxf, if_pos hh, ← hsf]; simp), E.ext X⟩
        · skip
          refine om_ef rfl (ef_lit (z := .int .u8 0) Try.underlying22 (by kernel_rfl) rfl rfl rfl rfl rfl) rfl ?_
          rintro _ w2 ⟨g2, rfl, B2, hg2, ex⟩
          refine ⟨.inr ex, ?_⟩
          replace X := X.ext ex
          replace T := T.ext ex
          replace V := V.ext ex
          replace B1 := B1.ext ex
          have H2 := bs_blk' (xs := [(1 : UInt8)]) (B2.congr (by rfl)) rfl
          refine wm_one 1 (by kernel_rfl) ?_; refine om_call rfl Try.func82 rfl rfl rfl (vec20_any A n k _ _ T (by omega)) rfl ?_
          rintro e w4 ⟨A4, k4, c4, rfl, R4, hk4, ex⟩
          refine ⟨_, rfl, .inr ex, ?_⟩
          replace X := X.ext ex
          replace T := T.ext ex
          replace V := V.ext ex
          replace B1 := B1.ext ex
          replace H2 := H2.ext ex
          have hl4 := lsz_le n
          refine wm_one 6 (by kernel_rfl) ?_; refine om_call rfl Try.func77 rfl rfl rfl (rleafBytes_any _ (HL.1.ext (E.ext X)) hf.2.2.1) rfl ?_
          rintro e w6 ⟨A6, k6, c6, rfl, R6, ex⟩
          refine ⟨_, rfl, .inr ex, ?_⟩
          replace X := X.ext ex
          replace T := T.ext ex
          replace V := V.ext ex
          replace B1 := B1.ext ex
          replace H2 := H2.ext ex
          replace R4 := R4.ext ex
          have hk6 := R6.bs.1
          refine wm_one 7 (by kernel_rfl) ?_; refine om_call rfl Try.func81 rfl rfl rfl (three20_any A4 _ A6 k4 c4 _ _ k6 c6 _ _ _ _ R4.bs (by omega) H2 (by omega) R6.bs (by omega)) rfl ?_
          rintro e w7 ⟨A7, c7, rfl, R7, ex⟩
          refine ⟨_, rfl, .inr ex, ?_⟩
          replace X := X.ext ex
          replace T := T.ext ex
          replace V := V.ext ex
          replace B1 := B1.ext ex
          replace H2 := H2.ext ex
          replace R4 := R4.ext ex
          replace R6 := R6.ext ex
          skip
          refine wm_one 9 (by kernel_rfl) ?_; refine om_call rfl Try.func82 rfl rfl rfl (vec20_any S sn sk _ _ V (by omega)) rfl ?_
          rintro e w8 ⟨A8, k8, c8, rfl, R8, hk8, ex⟩
          refine ⟨_, rfl, .inr ex, ?_⟩
          replace X := X.ext ex
          replace T := T.ext ex
          replace V := V.ext ex
          replace B1 := B1.ext ex
          replace H2 := H2.ext ex
          replace R4 := R4.ext ex
          replace R6 := R6.ext ex
          replace R7 := R7.ext ex
          have hl8 := lsz_le sn
          have hz := (E.ext X).size
          refine wm_one 10 (by kernel_rfl) ?_; refine om_call rfl Try.func76 rfl rfl rfl (join20_any A7 A8 _ c7 k8 c8 _ _ _ R7.bs (by omega) R8.bs (by omega)) rfl ?_
          rintro e w9 ⟨A9, c9, rfl, R9, ex⟩
          refine ⟨_, rfl, .inr ex, ?_⟩
          replace X := X.ext ex
          replace T := T.ext ex
          replace V := V.ext ex
          replace B1 := B1.ext ex
          replace H2 := H2.ext ex
          replace R4 := R4.ext ex
          replace R6 := R6.ext ex
          replace R7 := R7.ext ex
          replace R8 := R8.ext ex
          skip
          refine wm_y 11 rfl (by kernel_rfl) (y_assign rfl) rfl ?_
          refine wm_done (by kernel_rfl) ?_
          refine wq_nop ?_
          refine wq_then_norm (hK24 ?_)
          refine wc_ret ?_
          refine hret rfl ?_
          exact ⟨A9, _, c9, rfl, (R9.lower hz).congr rfl (by unfold comB; rw [← hxf, if_pos hh, ← hsf]; simp), E.ext X⟩
end
end Go.Proofs.Ytpgalbgonmclaaa
