/- The reference's product of a key and a point: what it hands back. -/
import Derived.Test.YtbcbihdfpkeacaaDhD
import Derived.Test.YtbcbihdfpkeacaaFieldJ
namespace Go.Proofs.Ytbcbihdfpkeacaa
open Go.RowKit
attribute [local irreducible] Y Ef WL WC WK WQ WM OpM WN WF OpN
/-- Two numbers in a slice. -/
def Xs (w : World) (g : Nat) (f : Nat → Fp.F) : Prop := ∃ A0 n0 c0 A1 n1 c1, Blk w g 30 #[.slice A0 n0 c0, .slice A1 n1 c1] ∧ BG w A0 n0 (f 0) ∧ BG w A1 n1 (f 1)
theorem Xs.ext {w w' : World} {g : Nat} {f : Nat → Fp.F} (h : Xs w g f) (k : Ext w w') : Xs w' g f := by
  obtain ⟨A0, n0, c0, A1, n1, c1, B, h0, h1⟩ := h
  exact ⟨A0, n0, c0, A1, n1, c1, B.ext k, h0.ext k, h1.ext k⟩
theorem Xs.lt {w : World} {g : Nat} {f : Nat → Fp.F} (h : Xs w g f) : g < w.heap.size := by
  obtain ⟨A0, n0, c0, A1, n1, c1, B, h0, h1⟩ := h; exact B.lt
/-- What holds a slice holds no number. -/
theorem cell_noint {w : World} {g : Nat} {t : TypeId} {A0 A1 : Option Addr} {n0 c0 n1 c1 : Nat} (B : Blk w g t #[.slice A0 n0 c0, .slice A1 n1 c1]) {i : Nat} {k : IntKind} {z : Int} (h : w.cell? ⟨g, i, none⟩ = some (.int k z)) : False := by
  rw [B.cell] at h
  match i, h with
  | 0, h => cases h
  | 1, h => cases h
  | i + 2, h => simp at h
theorem Ns.apart {w w' : World} {k : IntKind} {A : Option Addr} {n g : Nat} {t : TypeId} {xs : List Nat} {A0 A1 : Option Addr} {n0 c0 n1 c1 : Nat} (h : Ns k w A n xs) (B : Blk w g t #[.slice A0 n0 c0, .slice A1 n1 c1]) (cg : Chg w g w') : Ns k w' A n xs := by
  rcases Nat.eq_zero_or_pos n with h0 | h0
  · subst h0
    have : xs = [] := List.length_eq_zero_iff.1 h.1
    subst this
    exact Ns.nil w' A
  · refine h.chg cg fun b off hA e => ?_
    obtain ⟨b', off', x, hA', _, hc⟩ := h.cell h0
    rw [hA] at hA'
    injection hA' with hA'
    injection hA' with hA' _ _
    subst hA'
    rw [e] at hc
    exact cell_noint B hc
theorem Bs.apart {w w' : World} {A : Option Addr} {n g : Nat} {t : TypeId} {xs : List UInt8} {A0 A1 : Option Addr} {n0 c0 n1 c1 : Nat} (h : Bs w A n xs) (B : Blk w g t #[.slice A0 n0 c0, .slice A1 n1 c1]) (cg : Chg w g w') : Bs w' A n xs := by
  rcases Nat.eq_zero_or_pos n with h0 | h0
  · subst h0
    have : xs = [] := List.length_eq_zero_iff.1 h.1
    subst this
    exact Bs.nil w' A
  · refine h.chg cg fun b off hA e => ?_
    obtain ⟨b', off', hA', _, hc⟩ := h.get h0
    rw [hA] at hA'
    injection hA' with hA'
    injection hA' with hA' _ _
    subst hA'
    rw [e] at hc
    exact cell_noint B hc
theorem BG.far {w w' : World} {A : Option Addr} {n g : Nat} {a : Fp.F} {f : Nat → Fp.F} (h : BG w A n a) (H : Xs w g f) (cg : Chg w g w') : BG w' A n a := by
  obtain ⟨A0, n0, c0, A1, n1, c1, B, h0, h1⟩ := H
  exact Ns.apart h B cg
theorem Bs.far {w w' : World} {A : Option Addr} {n g : Nat} {xs : List UInt8} {f : Nat → Fp.F} (h : Bs w A n xs) (H : Xs w g f) (cg : Chg w g w') : Bs w' A n xs := by
  obtain ⟨A0, n0, c0, A1, n1, c1, B, h0, h1⟩ := H
  exact Bs.apart h B cg
theorem Xs.far {w w' : World} {g g' : Nat} {f f' : Nat → Fp.F} (h : Xs w g f) (H : Xs w g' f') (cg : Chg w g' w') (hne : g ≠ g') : Xs w' g f := by
  obtain ⟨A0, n0, c0, A1, n1, c1, B, h0, h1⟩ := h
  exact ⟨A0, n0, c0, A1, n1, c1, B.chg cg hne, h0.far H cg, h1.far H cg⟩
theorem Xs.get {w : World} {g : Nat} {f : Nat → Fp.F} (h : Xs w g f) {j : Nat} (hj : j < 2) : ∃ A n c, w.cell? ⟨g, 0 + j, none⟩ = some (.slice A n c) ∧ BG w A n (f j) := by
  obtain ⟨A0, n0, c0, A1, n1, c1, B, h0, h1⟩ := h
  match j, hj with
  | 0, _ => exact ⟨A0, n0, c0, B.get rfl, h0⟩
  | 1, _ => exact ⟨A1, n1, c1, B.get rfl, h1⟩
theorem Xs.congr {w : World} {g : Nat} {f f' : Nat → Fp.F} (h : Xs w g f) (e0 : f 0 = f' 0) (e1 : f 1 = f' 1) : Xs w g f' := by
  obtain ⟨A0, n0, c0, A1, n1, c1, B, h0, h1⟩ := h
  exact ⟨A0, n0, c0, A1, n1, c1, B, h0.congr e0, h1.congr e1⟩
theorem ef_putX {L : List (Nat × Value)} {w : World} {ty : TypeId} {x y : Operand} {g j n c : Nat} {A : Option Addr} {a : Fp.F} {f : Nat → Fp.F} (hx : ev L x = some (.pointer (some ⟨g, 0 + j, none⟩))) (hy : ev L y = some (.slice A n c)) (H : Xs w g f) (hB : BG w A n a) (hj : j < 2) :
    Ef Try.prog L w (.store 30 x y) ty fun u w' => u = undef ∧ Xs w' g (fun k => if k = j then a else f k) ∧ Chg w g w' := by
  have H' := H
  obtain ⟨A0, n0, c0, A1, n1, c1, B, h0, h1⟩ := H
  rw [Nat.zero_add] at hx
  refine (ef_storeB hx hy rfl (by kernel_rfl) B (by simpa using hj)).mono ?_
  rintro u w' ⟨hu, B', cg⟩
  refine ⟨hu, ?_, cg⟩
  match j, hj with
  | 0, _ => exact ⟨A, n, c, A1, n1, c1, B', hB.far H' cg, h1.far H' cg⟩
  | 1, _ => exact ⟨A0, n0, c0, A, n, c, B', h0.far H' cg, hB.far H' cg⟩
theorem ofB_lt (ys : List UInt8) : Fp.ofB ys < Fp.p := Nat.mod_lt _ Fp.p_pos
theorem lad_step {u : Fp.F} {N i s : Nat} {fx fz : Nat → Fp.F} (hs : s = N / 2 ^ (254 - i) % 2) (q1 : fx 0 = (ladder u N i).1.1) (q2 : fz 0 = (ladder u N i).1.2) (q3 : fx 1 = (ladder u N i).2.1) (q4 : fz 1 = (ladder u N i).2.2) :
    (if 0 = 1 - s then (lad (fx s) (fz s) (fx (1 - s)) (fz (1 - s)) u).2.1 else if 0 = s then (lad (fx s) (fz s) (fx (1 - s)) (fz (1 - s)) u).1.1 else fx 0) = (ladder u N (i + 1)).1.1 ∧
    (if 0 = 1 - s then (lad (fx s) (fz s) (fx (1 - s)) (fz (1 - s)) u).2.2 else if 0 = s then (lad (fx s) (fz s) (fx (1 - s)) (fz (1 - s)) u).1.2 else fz 0) = (ladder u N (i + 1)).1.2 ∧
    (if 1 = 1 - s then (lad (fx s) (fz s) (fx (1 - s)) (fz (1 - s)) u).2.1 else if 1 = s then (lad (fx s) (fz s) (fx (1 - s)) (fz (1 - s)) u).1.1 else fx 1) = (ladder u N (i + 1)).2.1 ∧
    (if 1 = 1 - s then (lad (fx s) (fz s) (fx (1 - s)) (fz (1 - s)) u).2.2 else if 1 = s then (lad (fx s) (fz s) (fx (1 - s)) (fz (1 - s)) u).1.2 else fz 1) = (ladder u N (i + 1)).2.2 := by
  rcases (show s = 0 ∨ s = 1 by omega) with h | h
  · subst h
    rw [ladder_f (by omega)]
    simp only [Nat.sub_zero, q1, q2, q3, q4]
    exact ⟨rfl, rfl, rfl, rfl⟩
  · subst h
    rw [ladder_t (by omega)]
    simp only [Nat.sub_self, q1, q2, q3, q4]
    exact ⟨rfl, rfl, rfl, rfl⟩
theorem half_step (x k : Nat) (hx : x < 256) : IntKind.i64.wrap (((x / 2 ^ k : Nat) : Int).tdiv 2) = ((x / 2 ^ (k + 1) : Nat) : Int) :=
  i64_nat (by rw [Nat.pow_succ, ← Nat.div_div_eq_div_mul]; rfl) (by have := Nat.div_le_self x (2 ^ (k + 1)); omega)
theorem rdh_any (A B : Option Addr) (n c m d : Nat) (xs ys : List UInt8) (w : World) (HA : Bs w A n xs) (HB : Bs w B m ys) (hn : n ≤ 60) (hm : m ≤ 60) :
    Calls Try.prog 61 #[.slice A n c, .slice B m d] w fun e w' => ∃ A' c', e = .returned (.slice A' 32 c') ∧ Bs w' A' 32 (Fp.le 32 (dhMul (Fp.num (clampB xs)) (Fp.of (Fp.ofB ys))).val) ∧ Ext w w' := by
  obtain ⟨es, hes⟩ : ∃ es, es = clampB xs := ⟨_, rfl⟩
  have hle : es.length = 32 := hes ▸ clampB_length xs
  obtain ⟨u, hu⟩ : ∃ u, u = Fp.of (Fp.ofB ys) := ⟨_, rfl⟩
  have E := Ext.refl w
  refine vc_enter1 159 Try.func61 rfl rfl rfl rfl ?_
  intro Q hret
  refine wc_seq ?_; intro K1 hK1
  refine wc_region ?_
  refine wl_y (y_assign rfl) rfl ?_
  refine wl_nil ?_
  refine wq_then_norm (hK1 ?_)
  refine wc_seq ?_; intro K2 hK2
  refine wc_region ?_
  refine wl_y (y_move rfl) rfl ?_
  refine wl_call Try.func58 rfl rfl rfl (rclamp_any A n c xs _ HA (by omega)) rfl ?_
  rintro e w1 ⟨A1, c1, rfl, _, K, ex⟩
  refine ⟨_, rfl, ?_⟩
  replace HB := HB.ext ex
  replace E := E.ext ex
  rw [← hes] at K
  refine wl_y (y_assign rfl) rfl ?_
  refine wl_nil ?_
  refine wq_then_norm (hK2 ?_)
  refine wc_seq ?_; intro K3 hK3
  refine wc_region ?_
  refine wl_y (y_move rfl) rfl ?_
  refine wl_call Try.func20 rfl rfl rfl (rfirst_any B m d ys _ HB (by omega)) rfl ?_
  rintro e w2 ⟨A2, n2, c2, rfl, U, hu2, ex⟩
  refine ⟨_, rfl, ?_⟩
  replace HB := HB.ext ex
  replace E := E.ext ex
  replace K := K.ext ex
  replace U : BG w2 A2 n2 u := by rw [hu]; exact BG.of U (ofB_lt ys)
  refine wl_y (y_assign rfl) rfl ?_
  refine wl_nil ?_
  refine wq_then_norm (hK3 ?_)
  refine wc_seq ?_; intro K4 hK4
  refine wc_region ?_
  refine wl_call Try.func24 rfl rfl rfl (num_any 1 _ (by omega)) rfl ?_
  rintro e w3 ⟨A3, n3, c3, rfl, O, ho, ex⟩
  refine ⟨_, rfl, ?_⟩
  replace HB := HB.ext ex
  replace E := E.ext ex
  replace K := K.ext ex
  replace U := U.ext ex
  replace O : BG w3 A3 n3 1 := O
  refine wl_y (y_assign rfl) rfl ?_
  refine wl_nil ?_
  refine wq_then_norm (hK4 ?_)
  refine wc_seq ?_; intro K5 hK5
  refine wc_region ?_
  refine wl_y (y_move rfl) rfl ?_
  refine wl_y (y_move rfl) rfl ?_
  have E4 := E
  refine wl_ef (ef_lit (z := .slice none 0 0) Try.underlying121 (by kernel_rfl) rfl rfl rfl rfl rfl) rfl ?_
  rintro _ w4 ⟨gx, rfl, BX, hgx, ex⟩
  replace HB := HB.ext ex
  replace E := E.ext ex
  replace K := K.ext ex
  replace U := U.ext ex
  replace O := O.ext ex
  have hwx : w.heap.size ≤ gx := Nat.le_trans E4.size hgx
  refine wl_y (y_assign rfl) rfl ?_
  refine wl_nil ?_
  refine wq_then_norm (hK5 ?_)
  refine wc_seq ?_; intro K6 hK6
  refine wc_region ?_
  refine wl_y (y_assign rfl) rfl ?_
  refine wl_nil ?_
  refine wq_then_norm (hK6 ?_)
  refine wc_seq ?_; intro K7 hK7
  refine wc_region ?_
  refine wl_y (y_move rfl) rfl ?_
  refine wl_y (y_move rfl) rfl ?_
  have E6 := E; have BX6 := BX
  refine wl_ef (ef_lit (z := .slice none 0 0) Try.underlying121 (by kernel_rfl) rfl rfl rfl rfl rfl) rfl ?_
  rintro _ w5 ⟨gz, rfl, BZ, hgz, ex⟩
  replace HB := HB.ext ex
  replace E := E.ext ex
  replace K := K.ext ex
  replace U := U.ext ex
  replace O := O.ext ex
  replace BX := BX.ext ex
  have hwz : w.heap.size ≤ gz := Nat.le_trans E6.size hgz; have hxz : gx ≠ gz := by have := BX6.lt; omega
  refine wl_y (y_assign rfl) rfl ?_
  refine wl_nil ?_
  refine wq_then_norm (hK7 ?_)
  refine wc_seq ?_; intro K8 hK8
  refine wc_seq ?_; intro K9 hK9
  have X0 : Xs w5 gx (fun j => if j = 0 then 1 else u) := ⟨A3, n3, c3, A2, n2, c2, BX, O, U⟩
  have Z0 : Xs w5 gz (fun j => if j = 0 then 0 else 1) := ⟨none, 0, 0, A3, n3, c3, BZ, Ns.nil _ _, O⟩
  refine wc_region ?_
  refine wl_y (y_assign rfl) rfl ?_
  refine wl_nil ?_
  refine wq_then_norm (hK9 ?_)
  refine wc_block ?_
  refine wc_loop (fun n' L wr => ∃ (j : Nat) (fx fz : Nat → Fp.F), L = [(5, .slice A1 32 c1), (6, .slice A2 n2 c2), (8, .slice (some ⟨gx, 0, none⟩) 2 2), (10, .slice (some ⟨gz, 0, none⟩) 2 2), (11, .int .i64 ((j : Int) - 1))] ∧ n' = 0 + j ∧ (j ≤ 255 ∧ Ext w wr ∧ Bs wr A1 32 es ∧ BG wr A2 n2 u ∧ Xs wr gx fx ∧ Xs wr gz fz ∧ fx 0 = (ladder u (Fp.num es) (255 - j)).1.1 ∧ fz 0 = (ladder u (Fp.num es) (255 - j)).1.2 ∧ fx 1 = (ladder u (Fp.num es) (255 - j)).2.1 ∧ fz 1 = (ladder u (Fp.num es) (255 - j)).2.2)) _ _ ⟨255, (fun j => if j = 0 then 1 else u), (fun j => if j = 0 then 0 else 1), rfl, rfl, by omega, E, K, U, X0, Z0, rfl, rfl, rfl, rfl⟩ ⟨rfl, rfl, rfl, rfl, (by first | rfl | exact congrArg some (int_val (by omega))), trivial⟩ ?_
  rintro KL1 n' L wr ⟨j, fx, fz, rfl, rfl, hj, E, K, U, X, Z, q1, q2, q3, q4⟩ hL1
  refine wc_seq ?_; intro K10 hK10
  refine wc_seq ?_; intro K11 hK11
  refine wc_region ?_
  refine wl_y (y_move rfl) rfl ?_
  refine wl_y (y_geq rfl rfl) rfl ?_
  refine wl_nil ?_
  refine wq_then_norm (hK11 ?_)
  refine wc_dec rfl (fun hc1 => ?_) (fun hc1 => ?_)
  · skip
    refine wc_skip ?_
    refine wq_then_norm (hK10 ?_)
    refine wc_seq ?_; intro K12 hK12
    refine wc_block ?_
    refine wc_seq ?_; intro K13 hK13
    obtain ⟨b, rfl⟩ : ∃ i, j = i + 1 := ⟨j - 1, by omega⟩
    rw [show (((b + 1 : Nat) : Int) - 1) = (b : Int) by omega]
    obtain ⟨i, hi⟩ : ∃ i, i = 255 - (b + 1) := ⟨_, rfl⟩
    have hbi : b = 254 - i := by omega
    rw [← hi] at q1 q2 q3 q4
    have hnb := num_bit es b (by omega)
    obtain ⟨b1, off1, x, hA1, hx, hcx⟩ := K.byte (k := b / 8) (by omega)
    subst hA1
    have hxl := x.toNat_lt
    rw [← hx.out] at hnb
    refine wc_region ?_
    refine wl_y (y_move rfl) rfl ?_
    refine wl_y (y_move rfl) rfl ?_
    refine wl_y (y_quo rfl rfl (by omega) (show IntKind.i64.wrap ((b : Int).tdiv 8) = ((b / 8 : Nat) : Int) from i64_nat rfl (by omega))) rfl ?_
    refine wl_y (y_ixs1 rfl rfl Try.underlying22 (by kernel_rfl) (j := b / 8) rfl (by omega)) rfl ?_
    refine wl_y (y_load1 rfl Try.underlying5 rfl hcx) rfl ?_
    refine wl_y (y_conv rfl Try.underlying5 Try.underlying3 (i64_nat (n := x.toNat) rfl (by omega))) rfl ?_
    refine wl_y (y_assign rfl) rfl ?_
    refine wl_nil ?_
    refine wq_then_norm (hK13 ?_)
    refine wc_seq ?_; intro K14 hK14
    refine wc_seq ?_; intro K15 hK15
    refine wc_region ?_
    refine wl_y (y_assign rfl) rfl ?_
    refine wl_nil ?_
    refine wq_then_norm (hK15 ?_)
    refine wc_block ?_
    refine wc_loop (fun n' L wr2 => ∃ (k : Nat), L = [(5, .slice (some ⟨b1, off1, none⟩) 32 c1), (6, .slice A2 n2 c2), (8, .slice (some ⟨gx, 0, none⟩) 2 2), (10, .slice (some ⟨gz, 0, none⟩) 2 2), (11, .int .i64 (b : Int)), (12, .int .i64 ((x.toNat / 2 ^ k : Nat) : Int)), (13, .int .i64 (k : Int))] ∧ n' = 8 - k ∧ (k ≤ b % 8 ∧ Ext w wr2 ∧ Bs wr2 (some ⟨b1, off1, none⟩) 32 es ∧ BG wr2 A2 n2 u ∧ Xs wr2 gx fx ∧ Xs wr2 gz fz)) _ _ ⟨0, rfl, rfl, by omega, E, K, U, X, Z⟩ ⟨rfl, rfl, rfl, rfl, (by first | rfl | exact congrArg some (int_val (by omega))), (by first | rfl | exact congrArg some (int_val (by omega))), (by first | rfl | exact congrArg some (int_val (by omega))), trivial⟩ ?_
    rintro KL2 n' L wr2 ⟨k, rfl, rfl, hk, E, K, U, X, Z⟩ hL2
    refine wc_seq ?_; intro K16 hK16
    refine wc_seq ?_; intro K17 hK17
    refine wc_region ?_
    refine wl_y (y_move rfl) rfl ?_
    refine wl_y (y_move rfl) rfl ?_
    refine wl_y (y_rem rfl rfl (by omega) (show ((b : Int).tmod 8) = ((b % 8 : Nat) : Int) from rfl)) rfl ?_
    refine wl_y (y_lss rfl rfl) rfl ?_
    refine wl_nil ?_
    refine wq_then_norm (hK17 ?_)
    refine wc_dec rfl (fun hc2 => ?_) (fun hc2 => ?_)
    · skip
      refine wc_skip ?_
      refine wq_then_norm (hK16 ?_)
      refine wc_seq ?_; intro K18 hK18
      refine wc_block ?_
      refine wc_region ?_
      refine wl_y (y_move rfl) rfl ?_
      refine wl_y (y_quo rfl rfl (by omega) (half_step x.toNat k (by omega))) rfl ?_
      refine wl_y (y_assign rfl) rfl ?_
      refine wl_nil ?_
      refine wq_blk_norm ?_
      refine wq_then_norm (hK18 ?_)
      refine wc_region ?_
      refine wl_y (y_move rfl) rfl ?_
      refine wl_y (y_add rfl rfl (i64_ok (by omega) (by omega))) rfl ?_
      refine wl_y (y_assign rfl) rfl ?_
      refine wl_nil ?_
      refine wq_then_norm ?_
      refine hL2 _ _ ⟨k + 1, rfl, rfl, by omega, E, K, U, X, Z⟩ (by omega) ⟨rfl, rfl, rfl, rfl, (by first | rfl | exact congrArg some (int_val (by omega))), (by first | rfl | exact congrArg some (int_val (by omega))), (by first | rfl | exact congrArg some (int_val (by omega))), trivial⟩
    · skip
      refine wc_exit ?_
      refine wq_then_exit ?_
      refine wq_then_exit ?_
      refine wq_blk_hit ?_
      refine wq_then_norm (hK14 ?_)
      refine wc_seq ?_; intro K19 hK19
      obtain rfl : k = b % 8 := by omega
      obtain ⟨s, hs⟩ : ∃ s, s = x.toNat / 2 ^ (b % 8) % 2 := ⟨_, rfl⟩
      have hs2 : s < 2 := by omega
      refine wc_region ?_
      refine wl_y (y_move rfl) rfl ?_
      refine wl_y (y_rem rfl rfl (by omega) (show ((x.toNat / 2 ^ (b % 8) : Nat) : Int).tmod 2 = ((s : Nat) : Int) by rw [hs]; rfl)) rfl ?_
      refine wl_y (y_assign rfl) rfl ?_
      refine wl_nil ?_
      refine wq_then_norm (hK19 ?_)
      refine wc_seq ?_; intro K20 hK20
      refine wc_draw (by kernel_rfl) 10 rfl ?_; intro wd16 ex hd16
      replace E := E.ext ex
      replace K := K.ext ex
      replace U := U.ext ex
      replace X := X.ext ex
      replace Z := Z.ext ex
      obtain ⟨Ax, nx, cx, kx, Hx⟩ := X.get (j := s) hs2
      obtain ⟨Az, nz, cz, kz, Hz⟩ := Z.get (j := s) hs2
      refine wm_y 0 rfl (by kernel_rfl) (y_move rfl) rfl ?_
      refine wm_y 1 rfl (by kernel_rfl) (y_move rfl) rfl ?_
      refine wm_y 2 rfl (by kernel_rfl) (y_ixs1 rfl rfl Try.underlying121 (by kernel_rfl) (j := s) rfl hs2) rfl ?_
      refine wm_y 3 rfl (by kernel_rfl) (y_load1 rfl Try.underlying30 rfl kx) rfl ?_
      refine wm_y 4 rfl (by kernel_rfl) (y_move rfl) rfl ?_
      refine wm_y 5 rfl (by kernel_rfl) (y_move rfl) rfl ?_
      refine wm_y 6 rfl (by kernel_rfl) (y_ixs1 rfl rfl Try.underlying121 (by kernel_rfl) (j := s) rfl hs2) rfl ?_
      refine wm_y 7 rfl (by kernel_rfl) (y_load1 rfl Try.underlying30 rfl kz) rfl ?_
      refine wm_one 8 (by kernel_rfl) ?_; refine om_call rfl Try.func26 rfl rfl rfl (Radd_any _ _ _ _ _ _ _ _ _ Hx Hz) rfl ?_
      rintro e v15 ⟨A15, n15, c15, rfl, R15, _, ex⟩
      refine ⟨_, rfl, .inr ex, ?_⟩
      replace E := E.ext ex
      replace K := K.ext ex
      replace U := U.ext ex
      replace X := X.ext ex
      replace Z := Z.ext ex
      skip
      refine wm_y 9 rfl (by kernel_rfl) (y_assign rfl) rfl ?_
      refine wm_done (by kernel_rfl) ?_
      refine wq_nop ?_
      refine wq_then_norm (hK20 ?_)
      refine wc_seq ?_; intro K21 hK21
      refine wc_draw (by kernel_rfl) 10 rfl ?_; intro wd17 ex hd17
      replace E := E.ext ex
      replace K := K.ext ex
      replace U := U.ext ex
      replace X := X.ext ex
      replace Z := Z.ext ex
      replace R15 := R15.ext ex
      obtain ⟨Ax, nx, cx, kx, Hx⟩ := X.get (j := s) hs2
      obtain ⟨Az, nz, cz, kz, Hz⟩ := Z.get (j := s) hs2
      refine wm_y 0 rfl (by kernel_rfl) (y_move rfl) rfl ?_
      refine wm_y 1 rfl (by kernel_rfl) (y_move rfl) rfl ?_
      refine wm_y 2 rfl (by kernel_rfl) (y_ixs1 rfl rfl Try.underlying121 (by kernel_rfl) (j := s) rfl hs2) rfl ?_
      refine wm_y 3 rfl (by kernel_rfl) (y_load1 rfl Try.underlying30 rfl kx) rfl ?_
      refine wm_y 4 rfl (by kernel_rfl) (y_move rfl) rfl ?_
      refine wm_y 5 rfl (by kernel_rfl) (y_move rfl) rfl ?_
      refine wm_y 6 rfl (by kernel_rfl) (y_ixs1 rfl rfl Try.underlying121 (by kernel_rfl) (j := s) rfl hs2) rfl ?_
      refine wm_y 7 rfl (by kernel_rfl) (y_load1 rfl Try.underlying30 rfl kz) rfl ?_
      refine wm_one 8 (by kernel_rfl) ?_; refine om_call rfl Try.func28 rfl rfl rfl (Rsub_any _ _ _ _ _ _ _ _ _ Hx Hz) rfl ?_
      rintro e v16 ⟨A16, n16, c16, rfl, R16, _, ex⟩
      refine ⟨_, rfl, .inr ex, ?_⟩
      replace E := E.ext ex
      replace K := K.ext ex
      replace U := U.ext ex
      replace X := X.ext ex
      replace Z := Z.ext ex
      replace R15 := R15.ext ex
      skip
      refine wm_y 9 rfl (by kernel_rfl) (y_assign rfl) rfl ?_
      refine wm_done (by kernel_rfl) ?_
      refine wq_nop ?_
      refine wq_then_norm (hK21 ?_)
      refine wc_seq ?_; intro K22 hK22
      refine wc_draw (by kernel_rfl) 12 rfl ?_; intro wd18 ex hd18
      replace E := E.ext ex
      replace K := K.ext ex
      replace U := U.ext ex
      replace X := X.ext ex
      replace Z := Z.ext ex
      replace R15 := R15.ext ex
      replace R16 := R16.ext ex
      obtain ⟨Ax, nx, cx, kx, Hx⟩ := X.get (j := 1 - s) (by omega)
      obtain ⟨Az, nz, cz, kz, Hz⟩ := Z.get (j := 1 - s) (by omega)
      refine wm_y 0 rfl (by kernel_rfl) (y_move rfl) rfl ?_
      refine wm_y 1 rfl (by kernel_rfl) (y_move rfl) rfl ?_
      refine wm_y 2 rfl (by kernel_rfl) (y_sub rfl rfl (i64_nat (n := 1 - s) (by omega) (by omega))) rfl ?_
      refine wm_y 3 rfl (by kernel_rfl) (y_ixs1 rfl rfl Try.underlying121 (by kernel_rfl) (j := 1 - s) rfl (by omega)) rfl ?_
      refine wm_y 4 rfl (by kernel_rfl) (y_load1 rfl Try.underlying30 rfl kx) rfl ?_
      refine wm_y 5 rfl (by kernel_rfl) (y_move rfl) rfl ?_
      refine wm_y 6 rfl (by kernel_rfl) (y_move rfl) rfl ?_
      refine wm_y 7 rfl (by kernel_rfl) (y_sub rfl rfl (i64_nat (n := 1 - s) (by omega) (by omega))) rfl ?_
      refine wm_y 8 rfl (by kernel_rfl) (y_ixs1 rfl rfl Try.underlying121 (by kernel_rfl) (j := 1 - s) rfl (by omega)) rfl ?_
      refine wm_y 9 rfl (by kernel_rfl) (y_load1 rfl Try.underlying30 rfl kz) rfl ?_
      refine wm_one 10 (by kernel_rfl) ?_; refine om_call rfl Try.func26 rfl rfl rfl (Radd_any _ _ _ _ _ _ _ _ _ Hx Hz) rfl ?_
      rintro e v17 ⟨A17, n17, c17, rfl, R17, _, ex⟩
      refine ⟨_, rfl, .inr ex, ?_⟩
      replace E := E.ext ex
      replace K := K.ext ex
      replace U := U.ext ex
      replace X := X.ext ex
      replace Z := Z.ext ex
      replace R15 := R15.ext ex
      replace R16 := R16.ext ex
      skip
      refine wm_y 11 rfl (by kernel_rfl) (y_assign rfl) rfl ?_
      refine wm_done (by kernel_rfl) ?_
      refine wq_nop ?_
      refine wq_then_norm (hK22 ?_)
      refine wc_seq ?_; intro K23 hK23
      refine wc_draw (by kernel_rfl) 12 rfl ?_; intro wd19 ex hd19
      replace E := E.ext ex
      replace K := K.ext ex
      replace U := U.ext ex
      replace X := X.ext ex
      replace Z := Z.ext ex
      replace R15 := R15.ext ex
      replace R16 := R16.ext ex
      replace R17 := R17.ext ex
      obtain ⟨Ax, nx, cx, kx, Hx⟩ := X.get (j := 1 - s) (by omega)
      obtain ⟨Az, nz, cz, kz, Hz⟩ := Z.get (j := 1 - s) (by omega)
      refine wm_y 0 rfl (by kernel_rfl) (y_move rfl) rfl ?_
      refine wm_y 1 rfl (by kernel_rfl) (y_move rfl) rfl ?_
      refine wm_y 2 rfl (by kernel_rfl) (y_sub rfl rfl (i64_nat (n := 1 - s) (by omega) (by omega))) rfl ?_
      refine wm_y 3 rfl (by kernel_rfl) (y_ixs1 rfl rfl Try.underlying121 (by kernel_rfl) (j := 1 - s) rfl (by omega)) rfl ?_
      refine wm_y 4 rfl (by kernel_rfl) (y_load1 rfl Try.underlying30 rfl kx) rfl ?_
      refine wm_y 5 rfl (by kernel_rfl) (y_move rfl) rfl ?_
      refine wm_y 6 rfl (by kernel_rfl) (y_move rfl) rfl ?_
      refine wm_y 7 rfl (by kernel_rfl) (y_sub rfl rfl (i64_nat (n := 1 - s) (by omega) (by omega))) rfl ?_
      refine wm_y 8 rfl (by kernel_rfl) (y_ixs1 rfl rfl Try.underlying121 (by kernel_rfl) (j := 1 - s) rfl (by omega)) rfl ?_
      refine wm_y 9 rfl (by kernel_rfl) (y_load1 rfl Try.underlying30 rfl kz) rfl ?_
      refine wm_one 10 (by kernel_rfl) ?_; refine om_call rfl Try.func28 rfl rfl rfl (Rsub_any _ _ _ _ _ _ _ _ _ Hx Hz) rfl ?_
      rintro e v18 ⟨A18, n18, c18, rfl, R18, _, ex⟩
      refine ⟨_, rfl, .inr ex, ?_⟩
      replace E := E.ext ex
      replace K := K.ext ex
      replace U := U.ext ex
      replace X := X.ext ex
      replace Z := Z.ext ex
      replace R15 := R15.ext ex
      replace R16 := R16.ext ex
      replace R17 := R17.ext ex
      skip
      refine wm_y 11 rfl (by kernel_rfl) (y_assign rfl) rfl ?_
      refine wm_done (by kernel_rfl) ?_
      refine wq_nop ?_
      refine wq_then_norm (hK23 ?_)
      refine wc_seq ?_; intro K24 hK24
      refine wc_region ?_
      refine wl_y (y_move rfl) rfl ?_
      refine wl_y (y_move rfl) rfl ?_
      refine wl_call Try.func31 rfl rfl rfl (Rmul_any _ _ _ _ _ _ _ _ _ R18 R15) rfl ?_
      rintro e v19 ⟨A19, n19, c19, rfl, R19, _, ex⟩
      refine ⟨_, rfl, ?_⟩
      replace E := E.ext ex
      replace K := K.ext ex
      replace U := U.ext ex
      replace X := X.ext ex
      replace Z := Z.ext ex
      replace R15 := R15.ext ex
      replace R16 := R16.ext ex
      replace R17 := R17.ext ex
      replace R18 := R18.ext ex
      skip
      refine wl_y (y_move rfl) rfl ?_
      refine wl_y (y_move rfl) rfl ?_
      refine wl_call Try.func31 rfl rfl rfl (Rmul_any _ _ _ _ _ _ _ _ _ R17 R16) rfl ?_
      rintro e v20 ⟨A20, n20, c20, rfl, R20, _, ex⟩
      refine ⟨_, rfl, ?_⟩
      replace E := E.ext ex
      replace K := K.ext ex
      replace U := U.ext ex
      replace X := X.ext ex
      replace Z := Z.ext ex
      replace R15 := R15.ext ex
      replace R16 := R16.ext ex
      replace R17 := R17.ext ex
      replace R18 := R18.ext ex
      replace R19 := R19.ext ex
      skip
      refine wl_y (y_assign rfl) rfl ?_
      refine wl_y (y_assign rfl) rfl ?_
      refine wl_nil ?_
      refine wq_then_norm (hK24 ?_)
      refine wc_seq ?_; intro K25 hK25
      refine wc_region ?_
      refine wl_y (y_move rfl) rfl ?_
      refine wl_y (y_move rfl) rfl ?_
      refine wl_call Try.func31 rfl rfl rfl (Rmul_any _ _ _ _ _ _ _ _ _ R15 R15) rfl ?_
      rintro e v21 ⟨A21, n21, c21, rfl, R21, _, ex⟩
      refine ⟨_, rfl, ?_⟩
      replace E := E.ext ex
      replace K := K.ext ex
      replace U := U.ext ex
      replace X := X.ext ex
      replace Z := Z.ext ex
      replace R15 := R15.ext ex
      replace R16 := R16.ext ex
      replace R17 := R17.ext ex
      replace R18 := R18.ext ex
      replace R19 := R19.ext ex
      replace R20 := R20.ext ex
      skip
      refine wl_y (y_move rfl) rfl ?_
      refine wl_y (y_move rfl) rfl ?_
      refine wl_call Try.func31 rfl rfl rfl (Rmul_any _ _ _ _ _ _ _ _ _ R16 R16) rfl ?_
      rintro e v22 ⟨A22, n22, c22, rfl, R22, _, ex⟩
      refine ⟨_, rfl, ?_⟩
      replace E := E.ext ex
      replace K := K.ext ex
      replace U := U.ext ex
      replace X := X.ext ex
      replace Z := Z.ext ex
      replace R15 := R15.ext ex
      replace R16 := R16.ext ex
      replace R17 := R17.ext ex
      replace R18 := R18.ext ex
      replace R19 := R19.ext ex
      replace R20 := R20.ext ex
      replace R21 := R21.ext ex
      skip
      refine wl_y (y_assign rfl) rfl ?_
      refine wl_y (y_assign rfl) rfl ?_
      refine wl_nil ?_
      refine wq_then_norm (hK25 ?_)
      refine wc_seq ?_; intro K26 hK26
      refine wc_region ?_
      refine wl_y (y_move rfl) rfl ?_
      refine wl_y (y_move rfl) rfl ?_
      refine wl_call Try.func28 rfl rfl rfl (Rsub_any _ _ _ _ _ _ _ _ _ R21 R22) rfl ?_
      rintro e v23 ⟨A23, n23, c23, rfl, R23, _, ex⟩
      refine ⟨_, rfl, ?_⟩
      replace E := E.ext ex
      replace K := K.ext ex
      replace U := U.ext ex
      replace X := X.ext ex
      replace Z := Z.ext ex
      replace R15 := R15.ext ex
      replace R16 := R16.ext ex
      replace R17 := R17.ext ex
      replace R18 := R18.ext ex
      replace R19 := R19.ext ex
      replace R20 := R20.ext ex
      replace R21 := R21.ext ex
      replace R22 := R22.ext ex
      skip
      refine wl_y (y_assign rfl) rfl ?_
      refine wl_nil ?_
      refine wq_then_norm (hK26 ?_)
      refine wc_seq ?_; intro K27 hK27
      refine wc_region ?_
      refine wl_y (y_move rfl) rfl ?_
      refine wl_y (y_move rfl) rfl ?_
      refine wl_call Try.func26 rfl rfl rfl (Radd_any _ _ _ _ _ _ _ _ _ R19 R20) rfl ?_
      rintro e v24 ⟨A24, n24, c24, rfl, R24, _, ex⟩
      refine ⟨_, rfl, ?_⟩
      replace E := E.ext ex
      replace K := K.ext ex
      replace U := U.ext ex
      replace X := X.ext ex
      replace Z := Z.ext ex
      replace R15 := R15.ext ex
      replace R16 := R16.ext ex
      replace R17 := R17.ext ex
      replace R18 := R18.ext ex
      replace R19 := R19.ext ex
      replace R20 := R20.ext ex
      replace R21 := R21.ext ex
      replace R22 := R22.ext ex
      replace R23 := R23.ext ex
      skip
      refine wl_y (y_move rfl) rfl ?_
      refine wl_y (y_move rfl) rfl ?_
      refine wl_call Try.func28 rfl rfl rfl (Rsub_any _ _ _ _ _ _ _ _ _ R19 R20) rfl ?_
      rintro e v25 ⟨A25, n25, c25, rfl, R25, _, ex⟩
      refine ⟨_, rfl, ?_⟩
      replace E := E.ext ex
      replace K := K.ext ex
      replace U := U.ext ex
      replace X := X.ext ex
      replace Z := Z.ext ex
      replace R15 := R15.ext ex
      replace R16 := R16.ext ex
      replace R17 := R17.ext ex
      replace R18 := R18.ext ex
      replace R19 := R19.ext ex
      replace R20 := R20.ext ex
      replace R21 := R21.ext ex
      replace R22 := R22.ext ex
      replace R23 := R23.ext ex
      replace R24 := R24.ext ex
      skip
      refine wl_y (y_assign rfl) rfl ?_
      refine wl_y (y_assign rfl) rfl ?_
      skip
      refine wl_nil ?_
      refine wq_then_norm (hK27 ?_)
      refine wc_seq ?_; intro K28 hK28
      refine wc_region ?_
      refine wl_y (y_move rfl) rfl ?_
      refine wl_y (y_move rfl) rfl ?_
      refine wl_y (y_move rfl) rfl ?_
      refine wl_y (y_move rfl) rfl ?_
      refine wl_call Try.func31 rfl rfl rfl (Rmul_any _ _ _ _ _ _ _ _ _ R21 R22) rfl ?_
      rintro e v26 ⟨A26, n26, c26, rfl, R26, _, ex⟩
      refine ⟨_, rfl, ?_⟩
      replace E := E.ext ex
      replace K := K.ext ex
      replace U := U.ext ex
      replace X := X.ext ex
      replace Z := Z.ext ex
      replace R15 := R15.ext ex
      replace R16 := R16.ext ex
      replace R17 := R17.ext ex
      replace R18 := R18.ext ex
      replace R19 := R19.ext ex
      replace R20 := R20.ext ex
      replace R21 := R21.ext ex
      replace R22 := R22.ext ex
      replace R23 := R23.ext ex
      replace R24 := R24.ext ex
      replace R25 := R25.ext ex
      skip
      refine wl_y (y_ixs1 rfl rfl Try.underlying121 (by kernel_rfl) (j := s) rfl hs2) rfl ?_
      refine wl_ef (ef_putX rfl rfl X R26 hs2) rfl ?_
      rintro _ v24_6 ⟨rfl, NX, cg⟩
      replace K := K.far X cg; replace U := U.far X cg; replace R21 := R21.far X cg; replace R23 := R23.far X cg; replace R24 := R24.far X cg; replace R25 := R25.far X cg; replace Z := Z.far X cg hxz.symm; replace E := E.chg cg hwx; replace X := NX
      refine wl_nil ?_
      refine wq_then_norm (hK28 ?_)
      refine wc_seq ?_; intro K29 hK29
      refine wc_region ?_
      refine wl_y (y_move rfl) rfl ?_
      refine wl_y (y_move rfl) rfl ?_
      refine wl_y (y_move rfl) rfl ?_
      refine wl_y (y_move rfl) rfl ?_
      refine wl_y (y_move rfl) rfl ?_
      refine wl_call Try.func24 rfl rfl rfl (num_any 121665 _ (by omega)) rfl ?_
      rintro e v27 ⟨A27, n27, c27, rfl, R27, _, ex⟩
      refine ⟨_, rfl, ?_⟩
      replace E := E.ext ex
      replace K := K.ext ex
      replace U := U.ext ex
      replace X := X.ext ex
      replace Z := Z.ext ex
      replace R21 := R21.ext ex
      replace R23 := R23.ext ex
      replace R24 := R24.ext ex
      replace R25 := R25.ext ex
      replace R27 : BG v27 A27 n27 (Fp.of 121665) := BG.of R27 (by unfold Fp.p; omega)
      refine wl_call Try.func31 rfl rfl rfl (Rmul_any _ _ _ _ _ _ _ _ _ R23 R27) rfl ?_
      rintro e v28 ⟨A28, n28, c28, rfl, R28, _, ex⟩
      refine ⟨_, rfl, ?_⟩
      replace E := E.ext ex
      replace K := K.ext ex
      replace U := U.ext ex
      replace X := X.ext ex
      replace Z := Z.ext ex
      replace R21 := R21.ext ex
      replace R23 := R23.ext ex
      replace R24 := R24.ext ex
      replace R25 := R25.ext ex
      skip
      refine wl_call Try.func26 rfl rfl rfl (Radd_any _ _ _ _ _ _ _ _ _ R21 R28) rfl ?_
      rintro e v29 ⟨A29, n29, c29, rfl, R29, _, ex⟩
      refine ⟨_, rfl, ?_⟩
      replace E := E.ext ex
      replace K := K.ext ex
      replace U := U.ext ex
      replace X := X.ext ex
      replace Z := Z.ext ex
      replace R21 := R21.ext ex
      replace R23 := R23.ext ex
      replace R24 := R24.ext ex
      replace R25 := R25.ext ex
      replace R28 := R28.ext ex
      skip
      refine wl_call Try.func31 rfl rfl rfl (Rmul_any _ _ _ _ _ _ _ _ _ R23 R29) rfl ?_
      rintro e v30 ⟨A30, n30, c30, rfl, R30, _, ex⟩
      refine ⟨_, rfl, ?_⟩
      replace E := E.ext ex
      replace K := K.ext ex
      replace U := U.ext ex
      replace X := X.ext ex
      replace Z := Z.ext ex
      replace R21 := R21.ext ex
      replace R23 := R23.ext ex
      replace R24 := R24.ext ex
      replace R25 := R25.ext ex
      replace R28 := R28.ext ex
      replace R29 := R29.ext ex
      skip
      refine wl_y (y_ixs1 rfl rfl Try.underlying121 (by kernel_rfl) (j := s) rfl hs2) rfl ?_
      refine wl_ef (ef_putX rfl rfl Z R30 hs2) rfl ?_
      rintro _ v25_10 ⟨rfl, NZ, cg⟩
      replace K := K.far Z cg; replace U := U.far Z cg; replace R24 := R24.far Z cg; replace R25 := R25.far Z cg; replace X := X.far Z cg hxz; replace E := E.chg cg hwz; replace Z := NZ
      refine wl_nil ?_
      refine wq_then_norm (hK29 ?_)
      refine wc_seq ?_; intro K30 hK30
      refine wc_region ?_
      refine wl_y (y_move rfl) rfl ?_
      refine wl_y (y_move rfl) rfl ?_
      refine wl_y (y_sub rfl rfl (i64_nat (n := 1 - s) (by omega) (by omega))) rfl ?_
      refine wl_y (y_move rfl) rfl ?_
      refine wl_y (y_move rfl) rfl ?_
      refine wl_call Try.func31 rfl rfl rfl (Rmul_any _ _ _ _ _ _ _ _ _ R24 R24) rfl ?_
      rintro e v31 ⟨A31, n31, c31, rfl, R31, _, ex⟩
      refine ⟨_, rfl, ?_⟩
      replace E := E.ext ex
      replace K := K.ext ex
      replace U := U.ext ex
      replace X := X.ext ex
      replace Z := Z.ext ex
      replace R24 := R24.ext ex
      replace R25 := R25.ext ex
      skip
      refine wl_y (y_ixs1 rfl rfl Try.underlying121 (by kernel_rfl) (j := 1 - s) rfl (by omega)) rfl ?_
      refine wl_ef (ef_putX rfl rfl X R31 (by omega)) rfl ?_
      rintro _ v26_7 ⟨rfl, NX, cg⟩
      replace K := K.far X cg; replace U := U.far X cg; replace R25 := R25.far X cg; replace Z := Z.far X cg hxz.symm; replace E := E.chg cg hwx; replace X := NX
      refine wl_nil ?_
      refine wq_then_norm (hK30 ?_)
      refine wc_region ?_
      refine wl_y (y_move rfl) rfl ?_
      refine wl_y (y_move rfl) rfl ?_
      refine wl_y (y_sub rfl rfl (i64_nat (n := 1 - s) (by omega) (by omega))) rfl ?_
      refine wl_y (y_move rfl) rfl ?_
      refine wl_y (y_move rfl) rfl ?_
      refine wl_y (y_move rfl) rfl ?_
      refine wl_call Try.func31 rfl rfl rfl (Rmul_any _ _ _ _ _ _ _ _ _ R25 R25) rfl ?_
      rintro e v32 ⟨A32, n32, c32, rfl, R32, _, ex⟩
      refine ⟨_, rfl, ?_⟩
      replace E := E.ext ex
      replace K := K.ext ex
      replace U := U.ext ex
      replace X := X.ext ex
      replace Z := Z.ext ex
      replace R25 := R25.ext ex
      skip
      refine wl_call Try.func31 rfl rfl rfl (Rmul_any _ _ _ _ _ _ _ _ _ U R32) rfl ?_
      rintro e v33 ⟨A33, n33, c33, rfl, R33, _, ex⟩
      refine ⟨_, rfl, ?_⟩
      replace E := E.ext ex
      replace K := K.ext ex
      replace U := U.ext ex
      replace X := X.ext ex
      replace Z := Z.ext ex
      replace R25 := R25.ext ex
      replace R32 := R32.ext ex
      skip
      refine wl_y (y_ixs1 rfl rfl Try.underlying121 (by kernel_rfl) (j := 1 - s) rfl (by omega)) rfl ?_
      refine wl_ef (ef_putX rfl rfl Z R33 (by omega)) rfl ?_
      rintro _ v27_9 ⟨rfl, NZ, cg⟩
      replace K := K.far Z cg; replace U := U.far Z cg; replace X := X.far Z cg hxz; replace E := E.chg cg hwz; replace Z := NZ
      refine wl_nil ?_
      refine wq_blk_norm ?_
      refine wq_then_norm (hK12 ?_)
      refine wc_region ?_
      refine wl_y (y_move rfl) rfl ?_
      refine wl_y (y_sub rfl rfl (i64_ok (by omega) (by omega))) rfl ?_
      refine wl_y (y_assign rfl) rfl ?_
      refine wl_nil ?_
      refine wq_then_norm ?_
      have hst := lad_step (u := u) (N := Fp.num es) (i := i) (s := s) (fx := fx) (fz := fz) (by rw [hs, hnb, hbi]) q1 q2 q3 q4
      rw [show i + 1 = 255 - b by omega] at hst
      refine hL1 _ _ ⟨b, _, _, rfl, rfl, by omega, E, K, U, X, Z, hst.1, hst.2.1, hst.2.2.1, hst.2.2.2⟩ (by omega) ⟨rfl, rfl, rfl, rfl, (by first | rfl | exact congrArg some (int_val (by omega))), trivial⟩
  · skip
    refine wc_exit ?_
    refine wq_then_exit ?_
    refine wq_then_exit ?_
    refine wq_blk_hit ?_
    refine wq_then_norm (hK8 ?_)
    refine wc_seq ?_; intro K31 hK31
    obtain rfl : j = 0 := by omega
    refine wc_draw (by kernel_rfl) 10 rfl ?_; intro wd28 ex hd28
    replace E := E.ext ex
    replace K := K.ext ex
    replace U := U.ext ex
    replace X := X.ext ex
    replace Z := Z.ext ex
    obtain ⟨Ax, nx, cx, kx, Hx⟩ := X.get (j := 0) (by omega)
    obtain ⟨Az, nz, cz, kz, Hz⟩ := Z.get (j := 0) (by omega)
    refine wm_y 0 rfl (by kernel_rfl) (y_move rfl) rfl ?_
    refine wm_y 1 rfl (by kernel_rfl) (y_ixs1 rfl rfl Try.underlying121 (by kernel_rfl) (j := 0) rfl (by omega)) rfl ?_
    refine wm_y 2 rfl (by kernel_rfl) (y_load1 rfl Try.underlying30 rfl kx) rfl ?_
    refine wm_y 3 rfl (by kernel_rfl) (y_move rfl) rfl ?_
    refine wm_y 4 rfl (by kernel_rfl) (y_ixs1 rfl rfl Try.underlying121 (by kernel_rfl) (j := 0) rfl (by omega)) rfl ?_
    refine wm_y 5 rfl (by kernel_rfl) (y_load1 rfl Try.underlying30 rfl kz) rfl ?_
    refine wm_one 6 (by kernel_rfl) ?_; refine om_call rfl Try.func46 rfl rfl rfl (Rinv_any _ _ _ _ _ Hz) rfl ?_
    rintro e v40 ⟨A40, n40, c40, rfl, R40, _, ex⟩
    refine ⟨_, rfl, .inr ex, ?_⟩
    replace E := E.ext ex
    replace K := K.ext ex
    replace U := U.ext ex
    replace X := X.ext ex
    replace Z := Z.ext ex
    have Hx2 := Hx.ext ex
    refine wm_one 7 (by kernel_rfl) ?_; refine om_call rfl Try.func31 rfl rfl rfl (Rmul_any _ _ _ _ _ _ _ _ _ Hx2 R40) rfl ?_
    rintro e v41 ⟨A41, n41, c41, rfl, R41, _, ex⟩
    refine ⟨_, rfl, .inr ex, ?_⟩
    replace E := E.ext ex
    replace K := K.ext ex
    replace U := U.ext ex
    replace X := X.ext ex
    replace Z := Z.ext ex
    have hl41 := R41.le
    refine wm_one 8 (by kernel_rfl) ?_; refine om_call rfl Try.func50 rfl rfl rfl (rbytes_any A41 n41 c41 32 _ _ R41 (by omega) (by omega)) rfl ?_
    rintro e v42 ⟨A42, c42, rfl, H42, ex⟩
    refine ⟨_, rfl, .inr ex, ?_⟩
    replace E := E.ext ex
    replace K := K.ext ex
    replace U := U.ext ex
    replace X := X.ext ex
    replace Z := Z.ext ex
    skip
    refine wm_y 9 rfl (by kernel_rfl) (y_assign rfl) rfl ?_
    refine wm_done (by kernel_rfl) ?_
    refine wq_nop ?_
    refine wq_then_norm (hK31 ?_)
    refine wc_ret ?_
    refine hret rfl ?_
    exact ⟨A42, c42, rfl, by rw [← hes, ← hu]; unfold dhMul; rw [q1, q2] at H42; exact H42, E⟩
end Go.Proofs.Ytbcbihdfpkeacaa
