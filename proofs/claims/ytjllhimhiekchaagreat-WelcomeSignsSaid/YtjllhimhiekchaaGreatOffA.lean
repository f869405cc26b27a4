/- Appends to a row that begins inside its block. Cuts of an array behind a pointer:. -/
import Derived.Test.YtjllhimhiekchaaGreatScC
import Derived.Test.YtjllhimhiekchaaGreatCurA
import Derived.Test.YtjllhimhiekchaaGreatVc7
import Derived.ArgAppend
/- Products of points by scalars. -/
namespace Go.Proofs.YtjllhimhiekchaaGreat
open Go.RowKit
attribute [local irreducible] Y Ef WL WC WK WQ WM OpM WN WF OpN
theorem mul_bit {P : Fp.F × Fp.F} (oP : Ed.On P) (n b : Nat) : (if n / 2 ^ b % 2 = 1 then Ed.add (Ed.add (Ed.mul (n / 2 ^ (b + 1)) P) (Ed.mul (n / 2 ^ (b + 1)) P)) P else Ed.add (Ed.mul (n / 2 ^ (b + 1)) P) (Ed.mul (n / 2 ^ (b + 1)) P)) = Ed.mul (n / 2 ^ b) P := by
 have e : n / 2 ^ b = 2 * (n / 2 ^ (b + 1)) + n / 2 ^ b % 2 := by
  rw [Nat.pow_succ, ← Nat.div_div_eq_div_mul]; omega
 have hr2 : n / 2 ^ b % 2 < 2 := Nat.mod_lt _ (by omega)
 generalize n / 2 ^ (b + 1) = q at *
 generalize n / 2 ^ b % 2 = r at *
 rw [e, ← Ed.mul_two oP]
 by_cases h : r = 1
 ·subst h; rw [if_pos rfl]; rfl
 ·rw [if_neg h]
  have hr : r = 0 := by omega
  subst hr; rfl
theorem Pmul_any {cs : Array Value} {P : Fp.F × Fp.F} (hP : PP cs P) (oP : Ed.On P) (n : Nat) (hn : n < Sc.L) (w : World) :
  Calls Tryz.prog 76 #[.agg cs, .agg (ws (Sc.wd n))] w fun e w' => ∃ es, e = .returned (.agg es) ∧ PT es (Ed.mul n P) ∧ Ext w w' := by
 obtain ⟨p1, p2, p3, p4, b, rfl, hP⟩ := hP.pc
 have hn3 : n / 2 ^ 253 = 0 := Nat.div_eq_of_lt (Nat.lt_trans hn Ed.L_lt)
 have E := Ext.refl w
 refine vc_enterc1 (s := 21) 31 Tryz.func76 rfl rfl rfl Tryz.underlying137 rfl (by kernel_rfl) rfl ?_
 intro Q hret
 refine wc_seq ?_; intro K1 hK1
 refine wc_region ?_
 refine wl_ef (ef_box (cs := pc p1 p2 p3 p4 b) rfl rfl) rfl ?_
 rintro _ w1 ⟨g2, rfl, B2, hg2, ex⟩
 replace E := E.ext ex
 skip
 have hz1 := E.size; have hl2 := B2.lt
 refine wl_ef (ef_box (cs := ws (Sc.wd n)) rfl rfl) rfl ?_
 rintro _ w2 ⟨g3, rfl, B3, hg3, ex⟩
 replace E := E.ext ex
 replace B2 := B2.ext ex
 skip
 have hz2 := E.size; have hl3 := B3.lt
 refine wl_ef (ef_alloc (Z := pc zf zf zf zf false) (by kernel_rfl)) rfl ?_
 rintro _ w3 ⟨g4, rfl, B4, hg4, ex⟩
 replace E := E.ext ex
 replace B2 := B2.ext ex
 replace B3 := B3.ext ex
 have hl4 := B4.lt
 refine wl_nil ?_
 refine wq_then_norm (hK1 ?_)
 refine wc_scope2 0 (fun n' L wr => ∃ (k g5 g6 : Nat) (cp co : Array Value) (fd : Nat → Nat), L = [(2, .pointer (some ⟨g2, 0, none⟩)), (3, .pointer (some ⟨g3, 0, none⟩)), (4, .pointer (some ⟨g4, 0, none⟩)), (5, .pointer (some ⟨g5, 0, none⟩)), (6, .pointer (some ⟨g6, 0, none⟩)), (7, .int .i64 (k : Int))] ∧ n' = 1 + k ∧ (k ≤ 252 ∧ w.heap.size ≤ g4 ∧ w.heap.size ≤ g5 ∧ g2 ≠ g5 ∧ g3 ≠ g5 ∧ g4 ≠ g5 ∧ g6 ≠ g5 ∧ PT cp P ∧ PT co (Ed.mul (n / 2 ^ (k + 1)) P) ∧ FE (fe fd) (Ed.d + Ed.d) ∧ Ext w wr ∧ Blk wr g2 137 cp ∧ Blk wr g3 142 (ws (Sc.wd n)) ∧ Blk wr g4 137 (pc zf zf zf zf false) ∧ Blk wr g5 137 co ∧ Blk wr g6 135 (fe fd))) rfl ?_ ?_
 ·rintro G n' L wr ⟨k, g5, g6, cp, co, fd, rfl, rfl, hk, hw4, hw5, h25, h35, h45, h65, Pp, Po, Fd, E, B2, B3, B4, B5, B6⟩ hG0
  refine wc_seq ?_; intro K2 hK2
  obtain ⟨a1, a2, a3, a4, rfl, q, A1, A2, A3, A4, Rq⟩ := Po.get
  obtain ⟨r1, r2, r3, r4, rfl, u, R1, R2, R3, R4, Ru⟩ := Pp.get
  have om := Ed.on_mul oP (n / 2 ^ (k + 1))
  have hbm := mul_bit oP n k
  refine wc_region ?_
  refine wl_y (y_q rfl B5) rfl ?_
  refine wl_y (y_q rfl B5) rfl ?_
  refine wl_y (y_lE rfl B6) rfl ?_
  refine wl_call Tryz.func160 rfl rfl rfl (padd_any A1 A2 A3 A4 A1 A2 A3 A4 Fd Rq Rq om om _ _ _) rfl ?_
  rintro e w14 ⟨c14, rfl, P14, ex⟩
  refine ⟨_, rfl, ?_⟩
  replace E := E.ext ex
  replace B2 := B2.ext ex
  replace B3 := B3.ext ex
  replace B4 := B4.ext ex
  replace B5 := B5.ext ex
  replace B6 := B6.ext ex
  obtain ⟨d1, d2, d3, d4, rfl, v, D1, D2, D3, D4, Rv⟩ := P14.get
  refine wl_ef (ef_storeW rfl rfl (by rw [pc_size]; kernel_rfl) B5 (by rw [pc_size, pc_size]) (pc_one _ _ _ _ _)) rfl ?_
  rintro _ w15 ⟨rfl, D5, cg⟩
  replace E := E.chg cg hw5; replace B2 := B2.chg cg h25; replace B3 := B3.chg cg h35; replace B4 := B4.chg cg h45; replace B6 := B6.chg cg h65; replace B5 := D5
  refine wl_nil ?_
  refine wq_then_norm (hK2 ?_)
  refine wc_seq ?_; intro K3 hK3
  refine wc_seq ?_; intro K4 hK4
  refine wc_region ?_
  refine wl_y ((y_loadw rfl Tryz.underlying142 rfl (by rw [ws_size]; kernel_rfl) B3)) rfl ?_
  refine wl_y (y_move rfl) rfl ?_
  refine wl_call Tryz.func161 rfl rfl rfl (Sbit_any n k _ (by omega)) rfl ?_
  rintro e w16 ⟨rfl, ex⟩
  refine ⟨_, rfl, ?_⟩
  replace E := E.ext ex
  replace B2 := B2.ext ex
  replace B3 := B3.ext ex
  replace B4 := B4.ext ex
  replace B5 := B5.ext ex
  replace B6 := B6.ext ex
  skip
  refine wl_y (y_eql rfl rfl) rfl ?_
  refine wl_nil ?_
  refine wq_then_norm (hK4 ?_)
  refine wc_dec rfl (fun hc1 => ?_) (fun hc1 => ?_)
  ·skip
   refine wc_region ?_
   refine wl_y (y_q rfl B5) rfl ?_
   refine wl_y (y_q rfl B2) rfl ?_
   refine wl_y (y_lE rfl B6) rfl ?_
   refine wl_call Tryz.func160 rfl rfl rfl (padd_any D1 D2 D3 D4 R1 R2 R3 R4 Fd Rv Ru (Ed.on_add om om) oP _ _ _) rfl ?_
   rintro e w17 ⟨c17, rfl, P17, ex⟩
   refine ⟨_, rfl, ?_⟩
   replace E := E.ext ex
   replace B2 := B2.ext ex
   replace B3 := B3.ext ex
   replace B4 := B4.ext ex
   replace B5 := B5.ext ex
   replace B6 := B6.ext ex
   rw [if_pos (by omega)] at hbm; rw [hbm] at P17; obtain ⟨e1, e2, e3, e4, rfl, _⟩ := P17.get
   refine wl_ef (ef_storeW rfl rfl (by rw [pc_size]; kernel_rfl) B5 (by rw [pc_size, pc_size]) (pc_one _ _ _ _ _)) rfl ?_
   rintro _ w18 ⟨rfl, D5, cg⟩
   replace E := E.chg cg hw5; replace B2 := B2.chg cg h25; replace B3 := B3.chg cg h35; replace B4 := B4.chg cg h45; replace B6 := B6.chg cg h65; replace B5 := D5; replace P14 := P17
   refine wl_nil ?_
   refine wq_then_norm (hK3 ?_)
   refine wc_seq ?_; intro K5 hK5
   refine wc_seq ?_; intro K6 hK6
   refine wc_region ?_
   refine wl_y (y_move rfl) rfl ?_
   refine wl_y (y_sub rfl rfl (show IntKind.i64.wrap ((k : Int) - 1) = (k : Int) - 1 from i64_ok (by omega) (by omega))) rfl ?_
   refine wl_y (y_assign rfl) rfl ?_
   refine wl_nil ?_
   refine wq_then_norm (hK6 ?_)
   refine wc_seq ?_; intro K7 hK7
   refine wc_region ?_
   refine wl_y (y_move rfl) rfl ?_
   refine wl_y (y_geq rfl rfl) rfl ?_
   refine wl_nil ?_
   refine wq_then_norm (hK7 ?_)
   refine wc_dec rfl (fun hc2 => ?_) (fun hc2 => ?_)
   ·skip
    refine wc_goto ?_
    refine wq_then_goto ?_
    refine wq_jump_hit ?_
    obtain ⟨j, rfl⟩ : ∃ j, k = j + 1 := ⟨k - 1, by omega⟩
    rw [show (((j + 1 : Nat) : Int) - 1) = (j : Int) by omega]
    refine hG0 _ _ ⟨j, g5, g6, _, _, fd, rfl, rfl, by omega, hw4, hw5, h25, h35, h45, h65, Pp, P14, Fd, E, B2, B3, B4, B5, B6⟩ (by omega) ⟨rfl, rfl, rfl, rfl, rfl, (by first | rfl | exact congrArg some (int_val (by omega))), trivial⟩
   ·skip
    refine wc_skip ?_
    refine wq_then_norm (hK5 ?_)
    refine wc_seq ?_; intro K8 hK8
    obtain rfl : k = 0 := by omega
    rw [Nat.pow_zero, Nat.div_one] at P14
    refine wc_region ?_
    refine wl_y (y_q rfl B5) rfl ?_
    refine wl_ef (ef_storeW rfl rfl (by rw [pc_size]; kernel_rfl) B4 (by rw [pc_size, pc_size]) (pc_one _ _ _ _ _)) rfl ?_
    rintro _ w19 ⟨rfl, D4', cg⟩
    replace E := E.chg cg hw4
    refine wl_nil ?_
    refine wq_then_norm (hK8 ?_)
    refine wc_ret ?_
    refine wq_jump_ret ?_
    refine hret rfl D4' (pc_size _ _ _ _ _) ?_
    exact ⟨_, rfl, P14, E⟩
  ·skip
   refine wc_skip ?_
   refine wq_then_norm (hK3 ?_)
   refine wc_seq ?_; intro K9 hK9
   refine wc_seq ?_; intro K10 hK10
   rw [if_neg (by omega)] at hbm
   rw [hbm] at P14
   refine wc_region ?_
   refine wl_y (y_move rfl) rfl ?_
   refine wl_y (y_sub rfl rfl (show IntKind.i64.wrap ((k : Int) - 1) = (k : Int) - 1 from i64_ok (by omega) (by omega))) rfl ?_
   refine wl_y (y_assign rfl) rfl ?_
   refine wl_nil ?_
   refine wq_then_norm (hK10 ?_)
   refine wc_seq ?_; intro K11 hK11
   refine wc_region ?_
   refine wl_y (y_move rfl) rfl ?_
   refine wl_y (y_geq rfl rfl) rfl ?_
   refine wl_nil ?_
   refine wq_then_norm (hK11 ?_)
   refine wc_dec rfl (fun hc2 => ?_) (fun hc2 => ?_)
   ·skip
    refine wc_goto ?_
    refine wq_then_goto ?_
    refine wq_jump_hit ?_
    obtain ⟨j, rfl⟩ : ∃ j, k = j + 1 := ⟨k - 1, by omega⟩
    rw [show (((j + 1 : Nat) : Int) - 1) = (j : Int) by omega]
    refine hG0 _ _ ⟨j, g5, g6, _, _, fd, rfl, rfl, by omega, hw4, hw5, h25, h35, h45, h65, Pp, P14, Fd, E, B2, B3, B4, B5, B6⟩ (by omega) ⟨rfl, rfl, rfl, rfl, rfl, (by first | rfl | exact congrArg some (int_val (by omega))), trivial⟩
   ·skip
    refine wc_skip ?_
    refine wq_then_norm (hK9 ?_)
    refine wc_seq ?_; intro K12 hK12
    obtain rfl : k = 0 := by omega
    rw [Nat.pow_zero, Nat.div_one] at P14
    refine wc_region ?_
    refine wl_y (y_q rfl B5) rfl ?_
    refine wl_ef (ef_storeW rfl rfl (by rw [pc_size]; kernel_rfl) B4 (by rw [pc_size, pc_size]) (pc_one _ _ _ _ _)) rfl ?_
    rintro _ w19 ⟨rfl, D4', cg⟩
    replace E := E.chg cg hw4
    refine wl_nil ?_
    refine wq_then_norm (hK12 ?_)
    refine wc_ret ?_
    refine wq_jump_ret ?_
    refine hret rfl D4' (pc_size _ _ _ _ _) ?_
    exact ⟨_, rfl, P14, E⟩
 ·intro G hG0
  refine wc_seq ?_; intro K13 hK13
  refine wc_region ?_
  refine wl_y (y_q rfl B2) rfl ?_
  refine wl_call Tryz.func156 rfl rfl rfl (preal_any hP _) rfl ?_
  rintro e w4 ⟨c4, rfl, P4, ex⟩
  refine ⟨_, rfl, ?_⟩
  replace E := E.ext ex
  replace B2 := B2.ext ex
  replace B3 := B3.ext ex
  replace B4 := B4.ext ex
  skip
  refine wl_ef (ef_storeW rfl rfl (by rw [P4.size]; kernel_rfl) B2 (by rw [pc_size, P4.size]) P4.one) rfl ?_
  rintro _ w5 ⟨rfl, D2, cg⟩
  replace E := E.chg cg (by omega); replace B3 := B3.chg cg (by omega); replace B4 := B4.chg cg (by omega); replace B2 := D2
  refine wl_nil ?_
  refine wq_then_norm (hK13 ?_)
  refine wc_seq ?_; intro K14 hK14
  refine wc_region ?_
  refine wl_call Tryz.func157 rfl rfl rfl (pnothing_any _) rfl ?_
  rintro e w6 ⟨c6, rfl, P6, ex⟩
  refine ⟨_, rfl, ?_⟩
  replace E := E.ext ex
  replace B2 := B2.ext ex
  replace B3 := B3.ext ex
  replace B4 := B4.ext ex
  skip
  refine wl_call Tryz.func158 rfl rfl rfl (pd_any _) rfl ?_
  rintro e w7 ⟨f7, rfl, F7, ex⟩
  refine ⟨_, rfl, ?_⟩
  replace E := E.ext ex
  replace B2 := B2.ext ex
  replace B3 := B3.ext ex
  replace B4 := B4.ext ex
  skip
  refine wl_call Tryz.func158 rfl rfl rfl (pd_any _) rfl ?_
  rintro e w8 ⟨f8, rfl, F8, ex⟩
  refine ⟨_, rfl, ?_⟩
  replace E := E.ext ex
  replace B2 := B2.ext ex
  replace B3 := B3.ext ex
  replace B4 := B4.ext ex
  skip
  refine wl_call Tryz.func159 rfl rfl rfl (Fadd_any F7 F8 _) rfl ?_
  rintro e w9 ⟨c9, rfl, F9, ex⟩
  refine ⟨_, rfl, ?_⟩
  replace E := E.ext ex
  replace B2 := B2.ext ex
  replace B3 := B3.ext ex
  replace B4 := B4.ext ex
  obtain ⟨f9, rfl, F9⟩ := F9.fe
  have hz4 := E.size; have hl24 := B2.lt; have hl34 := B3.lt; have hl44 := B4.lt
  refine wl_ef (ef_alloc (Z := pc zf zf zf zf false) (by kernel_rfl)) rfl ?_
  rintro _ w10 ⟨g5, rfl, B5, hg5, ex⟩
  replace E := E.ext ex
  replace B2 := B2.ext ex
  replace B3 := B3.ext ex
  replace B4 := B4.ext ex
  have hl5 := B5.lt
  refine wl_ef (ef_alloc (Z := fe zf) (by kernel_rfl)) rfl ?_
  rintro _ w11 ⟨g6, rfl, B6, hg6, ex⟩
  replace E := E.ext ex
  replace B2 := B2.ext ex
  replace B3 := B3.ext ex
  replace B4 := B4.ext ex
  replace B5 := B5.ext ex
  skip
  refine wl_ef (ef_storeW rfl rfl (by rw [P6.size]; kernel_rfl) B5 (by rw [pc_size, P6.size]) P6.one) rfl ?_
  rintro _ w12 ⟨rfl, D5, cg⟩
  replace E := E.chg cg (by omega); replace B2 := B2.chg cg (by omega); replace B3 := B3.chg cg (by omega); replace B4 := B4.chg cg (by omega); replace B6 := B6.chg cg (by omega); replace B5 := D5
  refine wl_ef (ef_storeW rfl rfl (by rw [fe_size]; kernel_rfl) B6 (by rw [fe_size, fe_size]) (fe_one _)) rfl ?_
  rintro _ w13 ⟨rfl, D6, cg⟩
  replace E := E.chg cg (by omega); replace B2 := B2.chg cg (by omega); replace B3 := B3.chg cg (by omega); replace B4 := B4.chg cg (by omega); replace B5 := B5.chg cg (by omega); replace B6 := D6
  refine wl_nil ?_
  refine wq_then_norm (hK14 ?_)
  refine wc_seq ?_; intro K15 hK15
  refine wc_region ?_
  refine wl_y (y_assign rfl) rfl ?_
  refine wl_nil ?_
  refine wq_then_norm (hK15 ?_)
  refine wc_seq ?_; intro KG0 hKG0
  refine wc_label ?_
  refine wq_then_norm (hKG0 ?_)
  exact hG0 _ _ ⟨252, g5, g6, c4, c6, f9, rfl, rfl, by omega, by omega, by omega, by omega, by omega, by omega, by omega, P4, P6.congr (by rw [hn3]; rfl), F9, E, B2, B3, B4, B5, B6⟩ ⟨rfl, rfl, rfl, rfl, rfl, (by first | rfl | exact congrArg some (int_val (by omega))), trivial⟩
end Go.Proofs.YtjllhimhiekchaaGreat

namespace Go.Proofs.YtjllhimhiekchaaGreat
section
open Go.RowKit
section
variable {P : Program} {w : World} {ty : TypeId}
end
end
section
open Go.RowKit
theorem y_cutarrl {P : Program} {L : List (Nat × Value)} {w : World} {t ty e : TypeId} {x y : Operand} {b off n j s : Nat} {k : IntKind} {a : Int} (hx : ev L x = some (.pointer (some ⟨b, off, none⟩))) (hy : ev L y = some (.int k a)) (hu : P.underlying t = some (.array n e)) (hs : (P.info? e).map (·.size) = some s) (ha : a = (j : Int)) (hj : j < n) :
  Y P L w (.slice t x (some y) none none) ty (.slice (some ⟨b, off + j * s, none⟩) (n - j) (n - j)) := fun ρ hρ w' _ _ _ _ _ => by
 subst ha
 have hb : ((Instr.sliceBounds false n n (some (.int k j)) none none).run P w') = .ok (j, n, n) w' := by
  have := Nat.le_of_lt hj
  simp [Instr.sliceBounds, Instr.sliceBound, asIntOf, this]
 have hne : ¬ (n = j) := by omega
 simp [execOp, hρ _ _ hx, hρ _ _ hy, Instr.sliceAt, Instr.sureAddr, run_underlying hu, hb, size_of_info hs, hne, Addr.add_plain]
theorem y_cutarrh {P : Program} {L : List (Nat × Value)} {w : World} {t ty e : TypeId} {x y : Operand} {A : Addr} {n j s : Nat} {k : IntKind} {a : Int} (hx : ev L x = some (.pointer (some A))) (hy : ev L y = some (.int k a)) (hu : P.underlying t = some (.array n e)) (hs : (P.info? e).map (·.size) = some s) (ha : a = (j : Int)) (hj : j ≤ n) :
  Y P L w (.slice t x none (some y) none) ty (.slice (some A) j n) := fun ρ hρ w' _ _ _ _ _ => by
 subst ha
 have hb : ((Instr.sliceBounds false n n none (some (.int k j)) none).run P w') = .ok (0, j, n) w' := by
  simp [Instr.sliceBounds, Instr.sliceBound, asIntOf, hj]
 simp [execOp, hρ _ _ hx, hρ _ _ hy, Instr.sliceAt, Instr.sureAddr, run_underlying hu, hb, size_of_info hs, Addr.add]
end
end Go.Proofs.YtjllhimhiekchaaGreat
