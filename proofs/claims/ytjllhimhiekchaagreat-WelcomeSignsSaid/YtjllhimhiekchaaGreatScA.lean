/- Scalars as four words: sums, differences, what is left of the order: plain laws. No program in sight. Scalars as the program holds them: four words; sums, differences, modulo the order. -/
import Derived.Test.YtjllhimhiekchaaGreatFieldS
import Derived.Test.YtjllhimhiekchaaGreatBigC
import Derived.Test.YtjllhimhiekchaaGreatFieldM
import Derived.Shelf.Spec.BitsCarry
import Derived.Test.YtjllhimhiekchaaGreatVc7
import Derived.Test.YtjllhimhiekchaaGreatFieldL
namespace Go.Proofs.YtjllhimhiekchaaGreat
section
namespace Sc
def W : Nat := 18446744073709551616
theorem W_pos : 0 < W := by unfold W; omega
theorem Wp (i : Nat) : 0 < W ^ i := Nat.pow_pos W_pos
def wl (k n : Nat) : List Nat := Fp.fn k fun j => n / W ^ j % W
def L : Nat := Ed.L
theorem L_eq : L = 7237005577332262213973186563042994240857116359379907606001950938285454250989 := rfl
theorem low_succ (a i : Nat) : a % W ^ (i + 1) = a % W ^ i + W ^ i * (a / W ^ i % W) := by rw [Nat.pow_succ, Nat.mod_mul]
theorem add_word (a b i : Nat) : (a / W ^ i % W + b / W ^ i % W + (a % W ^ i + b % W ^ i) / W ^ i) % W = (a + b) / W ^ i % W ∧ (a / W ^ i % W + b / W ^ i % W + (a % W ^ i + b % W ^ i) / W ^ i) / W = (a % W ^ (i + 1) + b % W ^ (i + 1)) / W ^ (i + 1) := by
 have hp := Wp i
 have e1 := low_succ a i
 have e2 := low_succ b i
 have hS : (a % W ^ (i + 1) + b % W ^ (i + 1)) / W ^ i = a / W ^ i % W + b / W ^ i % W + (a % W ^ i + b % W ^ i) / W ^ i := by
  rw [e1, e2, show a % W ^ i + W ^ i * (a / W ^ i % W) + (b % W ^ i + W ^ i * (b / W ^ i % W)) = (a % W ^ i + b % W ^ i) + W ^ i * (a / W ^ i % W + b / W ^ i % W) from by rw [Nat.mul_add]; omega, Nat.add_mul_div_left _ _ hp]
  omega
 constructor
 ·rw [← hS]
  have h : a + b = (a % W ^ (i + 1) + b % W ^ (i + 1)) + W ^ (i + 1) * (a / W ^ (i + 1) + b / W ^ (i + 1)) := by
   have h1 := Nat.mod_add_div a (W ^ (i + 1)); have h2 := Nat.mod_add_div b (W ^ (i + 1))
   rw [Nat.mul_add]; omega
  rw [h, Nat.pow_succ, Nat.mul_assoc, Nat.add_mul_div_left _ _ hp, Nat.add_mul_mod_self_left]
 ·rw [← hS, Nat.div_div_eq_div_mul, Nat.pow_succ]
def bor (a b i : Nat) : Nat := if a % W ^ i < b % W ^ i then 1 else 0
theorem bor_le (a b i : Nat) : bor a b i ≤ 1 := by unfold bor; split <;> omega
theorem lex_lt {P A B la lb : Nat} (ha : la < P) (hb : lb < P) : la + P * A < lb + P * B ↔ A < B ∨ (A = B ∧ la < lb) := by
 rcases Nat.lt_trichotomy A B with h | h | h
 ·have := Nat.mul_le_mul_left P (Nat.succ_le_of_lt h)
  rw [Nat.mul_succ] at this
  constructor
  ·intro _; exact .inl h
  ·intro _; omega
 ·subst h
  constructor
  ·intro h2; exact .inr ⟨rfl, by omega⟩
  ·rintro (h2 | ⟨_, h2⟩)
   ·omega
   ·omega
 ·have := Nat.mul_le_mul_left P (Nat.succ_le_of_lt h)
  rw [Nat.mul_succ] at this
  constructor
  ·intro h2; omega
  ·rintro (h2 | ⟨h2, _⟩) <;> omega
theorem bor_succ (a b i : Nat) : bor a b (i + 1) = if a / W ^ i % W < b / W ^ i % W + bor a b i then 1 else 0 := by
 have hp := Wp i
 have key := lex_lt (P := W ^ i) (A := a / W ^ i % W) (B := b / W ^ i % W) (Nat.mod_lt a hp) (Nat.mod_lt b hp)
 rw [← low_succ, ← low_succ] at key
 unfold bor
 by_cases h0 : a % W ^ i < b % W ^ i
 ·rw [if_pos h0]
  by_cases h1 : a % W ^ (i + 1) < b % W ^ (i + 1)
  ·rw [if_pos h1, if_pos]
   rcases key.1 h1 with h | ⟨h, _⟩ <;> omega
  ·rw [if_neg h1, if_neg]
   intro h
   apply h1
   rw [key]
   rcases Nat.lt_or_ge (a / W ^ i % W) (b / W ^ i % W) with h2 | h2
   ·exact .inl h2
   ·exact .inr ⟨by omega, h0⟩
 ·rw [if_neg h0]
  by_cases h1 : a % W ^ (i + 1) < b % W ^ (i + 1)
  ·rw [if_pos h1, if_pos]
   rcases key.1 h1 with h | ⟨_, h⟩
   ·omega
   ·exact absurd h h0
  ·rw [if_neg h1, if_neg]
   intro h
   apply h1
   rw [key]
   left; omega
theorem sub_mod (qa qb M c : Nat) (hc : c ≤ 1) (h : qb + c ≤ qa + 18446744073709551616 * M) : (qa + 18446744073709551616 * M - qb - c) % 18446744073709551616 = (qa % 18446744073709551616 + 2 * 18446744073709551616 - qb % 18446744073709551616 - c) % 18446744073709551616 := by
 omega
theorem sub_div {P M a b ra rb qa qb : Nat} (hp : 0 < P) (ha : a = P * qa + ra) (hb : b = P * qb + rb) (la : ra < P) (lb : rb < P) (h : b ≤ P * M) : (a + P * M - b) / P = qa + M - qb - (if ra < rb then 1 else 0) ∧ qb + (if ra < rb then 1 else 0) ≤ M := by
 have hq : qb ≤ M := by
  apply Classical.byContradiction; intro hc
  have := Nat.mul_le_mul_left P (show M + 1 ≤ qb by omega)
  rw [Nat.mul_succ] at this; omega
 split
 ·rename_i hlt
  have hq2 : qb + 1 ≤ M := by
   apply Classical.byContradiction; intro hc
   have : qb = M := by omega
   subst this; omega
  refine ⟨?_, hq2⟩
  obtain ⟨k, rfl⟩ : ∃ k, M = qb + 1 + k := ⟨M - (qb + 1), by omega⟩
  have e : a + P * (qb + 1 + k) - b = (P + ra - rb) + P * (qa + k) := by
   rw [ha, hb, Nat.mul_add P (qb + 1), Nat.mul_add P qb, Nat.mul_add P qa]; omega
  rw [e, Nat.add_mul_div_left _ _ hp, Nat.div_eq_of_lt (by omega)]; omega
 ·rename_i hlt
  refine ⟨?_, hq⟩
  obtain ⟨k, rfl⟩ : ∃ k, M = qb + k := ⟨M - qb, by omega⟩
  have e : a + P * (qb + k) - b = (ra - rb) + P * (qa + k) := by
   rw [ha, hb, Nat.mul_add P qb, Nat.mul_add P qa]; omega
  rw [e, Nat.add_mul_div_left _ _ hp, Nat.div_eq_of_lt (by omega)]; omega
theorem sub_word {a b i : Nat} (hb : b ≤ W ^ 4) (hi : i < 4) : (a + W ^ 4 - b) / W ^ i % W = (a / W ^ i % W + 2 * W - b / W ^ i % W - bor a b i) % W := by
 have hp := Wp i
 have e4 : W ^ 4 = W ^ i * (W * W ^ (3 - i)) := by rw [← Nat.mul_assoc, ← Nat.pow_succ, ← Nat.pow_add]; congr 1; omega
 have h := sub_div (M := W * W ^ (3 - i)) hp (Nat.div_add_mod a (W ^ i)).symm (Nat.div_add_mod b (W ^ i)).symm (Nat.mod_lt _ hp) (Nat.mod_lt _ hp) (by rw [← e4]; exact hb)
 rw [e4, h.1]
 have hc := bor_le a b i
 have h2 := h.2
 unfold bor at *
 exact sub_mod _ _ _ _ hc (Nat.le_trans h2 (Nat.le_add_left _ _))
theorem bor_all {a b : Nat} (ha : a < W ^ 4) (hb : b < W ^ 4) : bor a b 4 = if a < b then 1 else 0 := by
 unfold bor; rw [Nat.mod_eq_of_lt ha, Nat.mod_eq_of_lt hb]
theorem L_lt : L < W ^ 4 := by decide +kernel
theorem L2_lt : 2 * L < W ^ 4 := by decide +kernel
theorem wl_L : wl 4 L = [0x5812631a5cf5d3ed, 0x14def9dea2f79cd6, 0, 0x1000000000000000] := by decide +kernel
end Sc
end
section
open Go.RowKit
section
attribute [local irreducible] Y Ef WL WC WK WQ WM OpM WN WF OpN
theorem sub64_run (x y c : Nat) (hc : c ≤ 1) (w : World) :
  (callFunc 245 #[.int .u64 (x : Int), .int .u64 (y : Int), .int .u64 (c : Int)]).run Tryz.prog w = .ok (.value (.tuple #[.int .u64 (((x + 18446744073709551616 - y - c) % 18446744073709551616 : Nat) : Int), .int .u64 ((if x < y + c then 1 else 0 : Nat) : Int)])) w := by
 rw [run_callFunc_extern Tryz.func245 (by kernel_rfl) (by kernel_rfl) (by kernel_rfl) (e := sub64Entry) (by kernel_rfl), run_sub64 x y c hc]
 rfl
def ws (f : Nat → Nat) : Array Value := nums .u64 (Fp.fn 4 f)
theorem ws_size (f : Nat → Nat) : (ws f).size = 4 := by rw [ws, nums_size, Fp.fn_length]
theorem ws_get (f : Nat → Nat) {i j : Nat} (hi : i = j) (h : j < 4) : (ws f)[i]? = some (.int .u64 (f j : Nat)) := by
 subst hi; rw [ws, nums_get _ _ _ (by rw [Fp.fn_length]; exact h), Fp.fn_get f h]
theorem ws_set (f : Nat → Nat) (i x : Nat) : (ws f).setIfInBounds i (.int .u64 (x : Int)) = ws (fun j => if j = i then x else f j) := by
 rw [ws, nums_set, Fp.fn_set, ws]
theorem ws_one (f : Nat → Nat) : (ws f).all (·.oneCell') = true := nums_one _ _
theorem ws_congr {f g : Nat → Nat} (h : ∀ j, j < 4 → f j = g j) : ws f = ws g := by unfold ws; rw [Fp.fn_congr h]
def z4 : Nat → Nat := fun _ => 0
namespace Sc
def wd (n j : Nat) : Nat := n / W ^ j % W
theorem wd_lt (n j : Nat) : wd n j < 18446744073709551616 := Nat.mod_lt _ W_pos
def sofar (n i j : Nat) : Nat := if j < i then wd n j else 0
theorem sofar_all (n : Nat) : ws (sofar n 4) = ws (wd n) := ws_congr fun j h => by unfold sofar; rw [if_pos h]
theorem sofar_zero (n : Nat) : ws z4 = ws (sofar n 0) := ws_congr fun j h => by unfold sofar; rw [if_neg (by omega)]; rfl
theorem sofar_succ {n i x : Nat} (h : x = wd n i) : (ws (sofar n i)).setIfInBounds (0 + i) (.int .u64 (x : Int)) = ws (sofar n (i + 1)) := by
 rw [Nat.zero_add, ws_set]
 refine ws_congr fun j hj => ?_
 unfold sofar
 by_cases h1 : j = i
 ·subst h1; rw [if_pos rfl, if_pos (by omega), h]
 ·rw [if_neg h1]
  by_cases h2 : j < i
  ·rw [if_pos h2, if_pos (by omega)]
  ·rw [if_neg h2, if_neg (by omega)]
def car (a b i : Nat) : Nat := (a % W ^ i + b % W ^ i) / W ^ i
theorem car_le (a b i : Nat) : car a b i ≤ 1 := by
 unfold car
 have h1 := Nat.mod_lt a (Wp i); have h2 := Nat.mod_lt b (Wp i)
 have := Nat.div_lt_of_lt_mul (show a % W ^ i + b % W ^ i < W ^ i * 2 by omega)
 omega
theorem add_step (a b i : Nat) : (wd a i + wd b i + car a b i) % 18446744073709551616 = wd (a + b) i ∧ (wd a i + wd b i + car a b i) / 18446744073709551616 = car a b (i + 1) := add_word a b i
theorem sub_step {a b i : Nat} (hb : b ≤ W ^ 4) (hi : i < 4) : (wd a i + 18446744073709551616 - wd b i - bor a b i) % 18446744073709551616 = wd (a + W ^ 4 - b) i := by
 have h := sub_word (a := a) hb hi
 have h1 := wd_lt a i; have h2 := wd_lt b i; have h3 := bor_le a b i
 unfold wd at *
 rw [h]
 simp only [show W = 18446744073709551616 from rfl] at *
 omega
theorem bor_zero (a b : Nat) : bor a b 0 = 0 := by unfold bor; rw [if_neg (by simp [Nat.mod_one])]
theorem car_zero (a b : Nat) : car a b 0 = 0 := by unfold car; simp [Nat.mod_one]
theorem bor_step (a b i : Nat) : (if wd a i < wd b i + bor a b i then 1 else 0) = bor a b (i + 1) := (bor_succ a b i).symm
end Sc
theorem sorder_any (w : World) : Calls Tryz.prog 208 #[] w fun e w' => e = .returned (.agg (ws (Sc.wd Sc.L))) ∧ Ext w w' := by
 have E := Ext.refl w
 have hL : ws (Sc.wd Sc.L) = #[.int .u64 6346243789798364141, .int .u64 1503914060200516822, .int .u64 0, .int .u64 1152921504606846976] := by
  have := Sc.wl_L
  unfold Sc.wl at this
  show nums .u64 (Fp.fn 4 (Sc.wd Sc.L)) = _
  rw [show Fp.fn 4 (Sc.wd Sc.L) = _ from this]
  rfl
 refine vc_enterc1 (s := 4) 2 Tryz.func208 rfl rfl rfl Tryz.underlying140 rfl (by kernel_rfl) rfl ?_
 intro Q hret
 refine wc_seq ?_; intro K1 hK1
 refine wc_region ?_
 refine wl_ef (ef_alloc (Z := ws z4) (by kernel_rfl)) rfl ?_
 rintro _ w1 ⟨g0, rfl, B0, hg0, ex⟩
 replace E := E.ext ex
 skip
 refine wl_nil ?_
 refine wq_then_norm (hK1 ?_)
 refine wc_seq ?_; intro K2 hK2
 refine wc_region ?_
 refine wl_y (y_build rfl (cells := ws (Sc.wd Sc.L)) (by rw [hL]; kernel_rfl)) rfl ?_
 refine wl_ef (ef_storeW rfl rfl (by rw [ws_size]; kernel_rfl) B0 (by rw [ws_size, ws_size]) (ws_one _)) rfl ?_
 rintro _ w2 ⟨rfl, D0, cg⟩
 replace E := E.chg cg hg0
 refine wl_nil ?_
 refine wq_then_norm (hK2 ?_)
 refine wc_ret ?_
 refine hret rfl D0 (ws_size _) ?_
 exact ⟨rfl, E⟩
theorem ssub_any (a b : Nat) (w : World) (hb : b ≤ Sc.W ^ 4) :
  Calls Tryz.prog 207 #[.agg (ws (Sc.wd a)), .agg (ws (Sc.wd b))] w fun e w' => e = .returned (.tuple #[.agg (ws (Sc.wd (a + Sc.W ^ 4 - b))), .int .u64 ((Sc.bor a b 4 : Nat) : Int)]) ∧ Ext w w' := by
 have E := Ext.refl w
 refine vc_enterct (s := 4) 28 Tryz.func207 rfl rfl rfl Tryz.underlying140 rfl (by kernel_rfl) rfl ?_
 intro Q hret
 refine wc_seq ?_; intro K1 hK1
 refine wc_region ?_
 refine wl_ef (ef_box (cs := ws (Sc.wd a)) rfl rfl) rfl ?_
 rintro _ w1 ⟨g2, rfl, B2, hg2, ex⟩
 replace E := E.ext ex
 skip
 refine wl_ef (ef_box (cs := ws (Sc.wd b)) rfl rfl) rfl ?_
 rintro _ w2 ⟨g3, rfl, B3, hg3, ex⟩
 replace E := E.ext ex
 replace B2 := B2.ext ex
 skip
 have hz2 := E.size
 refine wl_ef (ef_alloc (Z := ws z4) (by kernel_rfl)) rfl ?_
 rintro _ w3 ⟨g4, rfl, B4, hg4, ex⟩
 replace E := E.ext ex
 replace B2 := B2.ext ex
 replace B3 := B3.ext ex
 skip
 refine wl_y (y_assign rfl) rfl ?_
 refine wl_nil ?_
 refine wq_then_norm (hK1 ?_)
 refine wc_seq ?_; intro K2 hK2
 refine wc_region ?_
 have hz := E.size; have hl2 := B2.lt; have hl3 := B3.lt; have hl4 := B4.lt
 refine wl_ef (ef_alloc (Z := ws z4) (by kernel_rfl)) rfl ?_
 rintro _ w4 ⟨g6, rfl, B6, hg6, ex⟩
 replace E := E.ext ex
 replace B2 := B2.ext ex
 replace B3 := B3.ext ex
 replace B4 := B4.ext ex
 rw [Sc.sofar_zero (a + Sc.W ^ 4 - b)] at B6
 refine wl_nil ?_
 refine wq_then_norm (hK2 ?_)
 refine wc_seq ?_; intro K3 hK3
 refine wc_region ?_
 refine wl_y (y_assign rfl) rfl ?_
 refine wl_nil ?_
 refine wq_then_norm (hK3 ?_)
 refine wc_seq ?_; intro K4 hK4
 refine wc_seq ?_; intro K5 hK5
 refine wc_region ?_
 refine wl_y (y_move rfl) rfl ?_
 refine wl_nil ?_
 refine wq_then_norm (hK5 ?_)
 refine wc_block ?_
 refine wc_loop (fun n' L wr => ∃ (i k : Nat), L = [(2, .pointer (some ⟨g2, 0, none⟩)), (3, .pointer (some ⟨g3, 0, none⟩)), (4, .pointer (some ⟨g4, 0, none⟩)), (6, .pointer (some ⟨g6, 0, none⟩)), (7, .int .u64 (k : Int)), (9, .int .i64 (i : Int))] ∧ n' = 4 - i ∧ (i ≤ 4 ∧ k = Sc.bor a b i ∧ Ext w wr ∧ Blk wr g2 140 (ws (Sc.wd a)) ∧ Blk wr g3 140 (ws (Sc.wd b)) ∧ Blk wr g4 140 (ws z4) ∧ Blk wr g6 140 (ws (Sc.sofar (a + Sc.W ^ 4 - b) i)))) _ _ ⟨0, 0, rfl, rfl, by omega, (Sc.bor_zero a b).symm, E, B2, B3, B4, B6⟩ ⟨rfl, rfl, rfl, rfl, (by first | rfl | exact congrArg some (int_val (by omega))), (by first | rfl | exact congrArg some (int_val (by omega))), trivial⟩ ?_
 rintro KL1 n' L wr ⟨i, k, rfl, rfl, hi, hk, E, B2, B3, B4, B6⟩ hL1
 refine wc_seq ?_; intro K6 hK6
 refine wc_region ?_
 refine wl_y (y_lss rfl rfl) rfl ?_
 refine wl_nil ?_
 refine wq_then_norm (hK6 ?_)
 refine wc_seq ?_; intro K7 hK7
 refine wc_dec rfl (fun hc1 => ?_) (fun hc1 => ?_)
 ·skip
  refine wc_skip ?_
  refine wq_then_norm (hK7 ?_)
  refine wc_seq ?_; intro K8 hK8
  refine wc_block ?_
  refine wc_seq ?_; intro K9 hK9
  refine wc_region ?_
  refine wl_y (y_move rfl) rfl ?_
  refine wl_y (y_assign rfl) rfl ?_
  refine wl_nil ?_
  refine wq_then_norm (hK9 ?_)
  refine wc_draw (by kernel_rfl) 15 rfl ?_; intro wd6 ex hd6
  replace E := E.ext ex
  replace B2 := B2.ext ex
  replace B3 := B3.ext ex
  replace B4 := B4.ext ex
  replace B6 := B6.ext ex
  refine wm_z 0 rfl (by kernel_rfl) (fun _ => y_move rfl) rfl ?_
  refine wm_z 1 rfl (by kernel_rfl) (fun _ => y_move rfl) rfl ?_
  refine wm_z 2 rfl (by kernel_rfl) (fun _ => y_ixa1 rfl rfl Tryz.underlying140 (by kernel_rfl) rfl (by omega)) rfl ?_
  refine wm_y 3 rfl (by kernel_rfl) (y_load1 rfl Tryz.underlying38 rfl (B2.get (ws_get _ (Nat.zero_add i) (by omega)))) rfl ?_
  refine wm_z 4 rfl (by kernel_rfl) (fun _ => y_move rfl) rfl ?_
  refine wm_z 5 rfl (by kernel_rfl) (fun _ => y_ixa1 rfl rfl Tryz.underlying140 (by kernel_rfl) rfl (by omega)) rfl ?_
  refine wm_y 6 rfl (by kernel_rfl) (y_load1 rfl Tryz.underlying38 rfl (B3.get (ws_get _ (Nat.zero_add i) (by omega)))) rfl ?_
  refine wm_z 7 rfl (by kernel_rfl) (fun _ => y_move rfl) rfl ?_
  refine wm_y 8 rfl (by kernel_rfl) ((ef_ext rfl (sub64_run _ _ _ (hk ▸ Sc.bor_le a b i)))) rfl ?_
  refine wm_z 9 rfl (by kernel_rfl) (fun _ => y_move rfl) rfl ?_
  refine wm_z 10 rfl (by kernel_rfl) (fun _ => y_extract rfl rfl) rfl ?_
  refine wm_z 11 rfl (by kernel_rfl) (fun _ => y_extract rfl rfl) rfl ?_
  refine wm_z 12 rfl (by kernel_rfl) (fun _ => y_ixa1 rfl rfl Tryz.underlying140 (by kernel_rfl) rfl (by omega)) rfl ?_
  subst hk
  rw [Sc.bor_step a b i]
  refine wm_one 13 (by kernel_rfl) ?_; refine om_ef rfl (ef_storeB rfl rfl rfl (by kernel_rfl) B6 (by rw [ws_size]; omega)) rfl ?_
  rintro _ w5 ⟨rfl, D6, cg⟩
  refine ⟨.inl rfl, ?_⟩
  rw [Sc.sofar_succ (Sc.sub_step hb (by omega))] at D6; replace E := E.chg cg (by omega); replace B2 := B2.chg cg (by omega); replace B3 := B3.chg cg (by omega); replace B4 := B4.chg cg (by omega); replace B6 := D6
  refine wm_y 14 rfl (by kernel_rfl) (y_assign rfl) rfl ?_
  refine wm_done (by kernel_rfl) ?_
  refine wq_nop ?_
  refine wq_blk_norm ?_
  refine wq_then_norm (hK8 ?_)
  refine wc_region ?_
  refine wl_y (y_add rfl rfl (i64_ok (by omega) (by omega))) rfl ?_
  refine wl_y (y_move rfl) rfl ?_
  refine wl_nil ?_
  refine wq_then_norm ?_
  refine hL1 _ _ ⟨i + 1, _, rfl, rfl, by omega, rfl, E, B2, B3, B4, B6⟩ (by omega) ⟨rfl, rfl, rfl, rfl, (by first | rfl | exact congrArg some (int_val (by omega))), (by first | rfl | exact congrArg some (int_val (by omega))), trivial⟩
 ·skip
  refine wc_exit ?_
  refine wq_then_exit ?_
  refine wq_then_exit ?_
  refine wq_blk_hit ?_
  refine wq_then_norm (hK4 ?_)
  refine wc_seq ?_; intro K10 hK10
  obtain rfl : i = 4 := by omega
  subst hk
  rw [Sc.sofar_all] at B6
  refine wc_region ?_
  refine wl_y (y_loadw rfl Tryz.underlying140 rfl (by kernel_rfl) B6) rfl ?_
  refine wl_y (y_move rfl) rfl ?_
  refine wl_ef (ef_storeW rfl rfl (by rw [ws_size]; kernel_rfl) B4 (by rw [ws_size, ws_size]) (ws_one _)) rfl ?_
  rintro _ w6 ⟨rfl, D4, cg⟩
  replace E := E.chg cg (by omega)
  refine wl_y (y_assign rfl) rfl ?_
  refine wl_nil ?_
  refine wq_then_norm (hK10 ?_)
  refine wc_ret ?_
  refine hret rfl rfl D4 (ws_size _) ?_
  exact ⟨rfl, E⟩
theorem sadd_any (a b : Nat) (w : World) :
  Calls Tryz.prog 214 #[.agg (ws (Sc.wd a)), .agg (ws (Sc.wd b))] w fun e w' => e = .returned (.tuple #[.agg (ws (Sc.wd (a + b))), .int .u64 ((Sc.car a b 4 : Nat) : Int)]) ∧ Ext w w' := by
 have E := Ext.refl w
 refine vc_enterct (s := 4) 28 Tryz.func214 rfl rfl rfl Tryz.underlying140 rfl (by kernel_rfl) rfl ?_
 intro Q hret
 refine wc_seq ?_; intro K1 hK1
 refine wc_region ?_
 refine wl_ef (ef_box (cs := ws (Sc.wd a)) rfl rfl) rfl ?_
 rintro _ w1 ⟨g2, rfl, B2, hg2, ex⟩
 replace E := E.ext ex
 skip
 refine wl_ef (ef_box (cs := ws (Sc.wd b)) rfl rfl) rfl ?_
 rintro _ w2 ⟨g3, rfl, B3, hg3, ex⟩
 replace E := E.ext ex
 replace B2 := B2.ext ex
 skip
 have hz2 := E.size
 refine wl_ef (ef_alloc (Z := ws z4) (by kernel_rfl)) rfl ?_
 rintro _ w3 ⟨g4, rfl, B4, hg4, ex⟩
 replace E := E.ext ex
 replace B2 := B2.ext ex
 replace B3 := B3.ext ex
 skip
 refine wl_y (y_assign rfl) rfl ?_
 refine wl_nil ?_
 refine wq_then_norm (hK1 ?_)
 refine wc_seq ?_; intro K2 hK2
 refine wc_region ?_
 have hz := E.size; have hl2 := B2.lt; have hl3 := B3.lt; have hl4 := B4.lt
 refine wl_ef (ef_alloc (Z := ws z4) (by kernel_rfl)) rfl ?_
 rintro _ w4 ⟨g6, rfl, B6, hg6, ex⟩
 replace E := E.ext ex
 replace B2 := B2.ext ex
 replace B3 := B3.ext ex
 replace B4 := B4.ext ex
 rw [Sc.sofar_zero (a + b)] at B6
 refine wl_nil ?_
 refine wq_then_norm (hK2 ?_)
 refine wc_seq ?_; intro K3 hK3
 refine wc_region ?_
 refine wl_y (y_assign rfl) rfl ?_
 refine wl_nil ?_
 refine wq_then_norm (hK3 ?_)
 refine wc_seq ?_; intro K4 hK4
 refine wc_seq ?_; intro K5 hK5
 refine wc_region ?_
 refine wl_y (y_move rfl) rfl ?_
 refine wl_nil ?_
 refine wq_then_norm (hK5 ?_)
 refine wc_block ?_
 refine wc_loop (fun n' L wr => ∃ (i k : Nat), L = [(2, .pointer (some ⟨g2, 0, none⟩)), (3, .pointer (some ⟨g3, 0, none⟩)), (4, .pointer (some ⟨g4, 0, none⟩)), (6, .pointer (some ⟨g6, 0, none⟩)), (7, .int .u64 (k : Int)), (9, .int .i64 (i : Int))] ∧ n' = 4 - i ∧ (i ≤ 4 ∧ k = Sc.car a b i ∧ Ext w wr ∧ Blk wr g2 140 (ws (Sc.wd a)) ∧ Blk wr g3 140 (ws (Sc.wd b)) ∧ Blk wr g4 140 (ws z4) ∧ Blk wr g6 140 (ws (Sc.sofar (a + b) i)))) _ _ ⟨0, 0, rfl, rfl, by omega, (Sc.car_zero a b).symm, E, B2, B3, B4, B6⟩ ⟨rfl, rfl, rfl, rfl, (by first | rfl | exact congrArg some (int_val (by omega))), (by first | rfl | exact congrArg some (int_val (by omega))), trivial⟩ ?_
 rintro KL1 n' L wr ⟨i, k, rfl, rfl, hi, hk, E, B2, B3, B4, B6⟩ hL1
 refine wc_seq ?_; intro K6 hK6
 refine wc_region ?_
 refine wl_y (y_lss rfl rfl) rfl ?_
 refine wl_nil ?_
 refine wq_then_norm (hK6 ?_)
 refine wc_seq ?_; intro K7 hK7
 refine wc_dec rfl (fun hc1 => ?_) (fun hc1 => ?_)
 ·skip
  refine wc_skip ?_
  refine wq_then_norm (hK7 ?_)
  refine wc_seq ?_; intro K8 hK8
  refine wc_block ?_
  refine wc_seq ?_; intro K9 hK9
  refine wc_region ?_
  refine wl_y (y_move rfl) rfl ?_
  refine wl_y (y_assign rfl) rfl ?_
  refine wl_nil ?_
  refine wq_then_norm (hK9 ?_)
  refine wc_draw (by kernel_rfl) 15 rfl ?_; intro wd6 ex hd6
  replace E := E.ext ex
  replace B2 := B2.ext ex
  replace B3 := B3.ext ex
  replace B4 := B4.ext ex
  replace B6 := B6.ext ex
  refine wm_z 0 rfl (by kernel_rfl) (fun _ => y_move rfl) rfl ?_
  refine wm_z 1 rfl (by kernel_rfl) (fun _ => y_move rfl) rfl ?_
  refine wm_z 2 rfl (by kernel_rfl) (fun _ => y_ixa1 rfl rfl Tryz.underlying140 (by kernel_rfl) rfl (by omega)) rfl ?_
  refine wm_y 3 rfl (by kernel_rfl) (y_load1 rfl Tryz.underlying38 rfl (B2.get (ws_get _ (Nat.zero_add i) (by omega)))) rfl ?_
  refine wm_z 4 rfl (by kernel_rfl) (fun _ => y_move rfl) rfl ?_
  refine wm_z 5 rfl (by kernel_rfl) (fun _ => y_ixa1 rfl rfl Tryz.underlying140 (by kernel_rfl) rfl (by omega)) rfl ?_
  refine wm_y 6 rfl (by kernel_rfl) (y_load1 rfl Tryz.underlying38 rfl (B3.get (ws_get _ (Nat.zero_add i) (by omega)))) rfl ?_
  refine wm_z 7 rfl (by kernel_rfl) (fun _ => y_move rfl) rfl ?_
  refine wm_y 8 rfl (by kernel_rfl) ((ef_ext rfl (add64_run _ _ _ (hk ▸ Sc.car_le a b i)))) rfl ?_
  refine wm_z 9 rfl (by kernel_rfl) (fun _ => y_move rfl) rfl ?_
  refine wm_z 10 rfl (by kernel_rfl) (fun _ => y_extract rfl rfl) rfl ?_
  refine wm_z 11 rfl (by kernel_rfl) (fun _ => y_extract rfl rfl) rfl ?_
  refine wm_z 12 rfl (by kernel_rfl) (fun _ => y_ixa1 rfl rfl Tryz.underlying140 (by kernel_rfl) rfl (by omega)) rfl ?_
  subst hk
  rw [(Sc.add_step a b i).2]
  refine wm_one 13 (by kernel_rfl) ?_; refine om_ef rfl (ef_storeB rfl rfl rfl (by kernel_rfl) B6 (by rw [ws_size]; omega)) rfl ?_
  rintro _ w5 ⟨rfl, D6, cg⟩
  refine ⟨.inl rfl, ?_⟩
  rw [Sc.sofar_succ (Sc.add_step a b i).1] at D6; replace E := E.chg cg (by omega); replace B2 := B2.chg cg (by omega); replace B3 := B3.chg cg (by omega); replace B4 := B4.chg cg (by omega); replace B6 := D6
  refine wm_y 14 rfl (by kernel_rfl) (y_assign rfl) rfl ?_
  refine wm_done (by kernel_rfl) ?_
  refine wq_nop ?_
  refine wq_blk_norm ?_
  refine wq_then_norm (hK8 ?_)
  refine wc_region ?_
  refine wl_y (y_add rfl rfl (i64_ok (by omega) (by omega))) rfl ?_
  refine wl_y (y_move rfl) rfl ?_
  refine wl_nil ?_
  refine wq_then_norm ?_
  refine hL1 _ _ ⟨i + 1, _, rfl, rfl, by omega, rfl, E, B2, B3, B4, B6⟩ (by omega) ⟨rfl, rfl, rfl, rfl, (by first | rfl | exact congrArg some (int_val (by omega))), (by first | rfl | exact congrArg some (int_val (by omega))), trivial⟩
 ·skip
  refine wc_exit ?_
  refine wq_then_exit ?_
  refine wq_then_exit ?_
  refine wq_blk_hit ?_
  refine wq_then_norm (hK4 ?_)
  refine wc_seq ?_; intro K10 hK10
  obtain rfl : i = 4 := by omega
  subst hk
  rw [Sc.sofar_all] at B6
  refine wc_region ?_
  refine wl_y (y_loadw rfl Tryz.underlying140 rfl (by kernel_rfl) B6) rfl ?_
  refine wl_y (y_move rfl) rfl ?_
  refine wl_ef (ef_storeW rfl rfl (by rw [ws_size]; kernel_rfl) B4 (by rw [ws_size, ws_size]) (ws_one _)) rfl ?_
  rintro _ w6 ⟨rfl, D4, cg⟩
  replace E := E.chg cg (by omega)
  refine wl_y (y_assign rfl) rfl ?_
  refine wl_nil ?_
  refine wq_then_norm (hK10 ?_)
  refine wc_ret ?_
  refine hret rfl rfl D4 (ws_size _) ?_
  exact ⟨rfl, E⟩
theorem Sc.wd_top (n j : Nat) (h : j < 4) : Sc.wd (n + Sc.W ^ 4) j = Sc.wd n j := by
 unfold Sc.wd
 have e4 : Sc.W ^ 4 = Sc.W ^ j * (Sc.W * Sc.W ^ (3 - j)) := by rw [← Nat.mul_assoc, ← Nat.pow_succ, ← Nat.pow_add]; congr 1; omega
 rw [e4, Nat.add_mul_div_left _ _ (Sc.Wp j), Nat.add_mul_mod_self_left]
theorem sonce_any (a : Nat) (w : World) (ha : a < 2 * Sc.L) :
  Calls Tryz.prog 215 #[.agg (ws (Sc.wd a))] w fun e w' => e = .returned (.agg (ws (Sc.wd (a % Sc.L)))) ∧ Ext w w' := by
 have E := Ext.refl w
 have hL := Sc.L_lt
 have h2L := Sc.L2_lt
 have hbor := Sc.bor_all (a := a) (b := Sc.L) (by omega) hL
 have hge : ¬ a < Sc.L → ws (Sc.wd (a + Sc.W ^ 4 - Sc.L)) = ws (Sc.wd (a % Sc.L)) := fun h => ws_congr fun j hj => by
  rw [show a + Sc.W ^ 4 - Sc.L = (a - Sc.L) + Sc.W ^ 4 by omega, Sc.wd_top _ _ hj, Nat.mod_eq_sub_mod (by omega), Nat.mod_eq_of_lt (by omega)]
 refine vc_enterc1 (s := 4) 15 Tryz.func215 rfl rfl rfl Tryz.underlying140 rfl (by kernel_rfl) rfl ?_
 intro Q hret
 refine wc_seq ?_; intro K1 hK1
 refine wc_region ?_
 refine wl_ef (ef_box (cs := ws (Sc.wd a)) rfl rfl) rfl ?_
 rintro _ w1 ⟨g1, rfl, B1, hg1, ex⟩
 replace E := E.ext ex
 skip
 have hz := E.size
 refine wl_ef (ef_alloc (Z := ws z4) (by kernel_rfl)) rfl ?_
 rintro _ w2 ⟨g2, rfl, B2, hg2, ex⟩
 replace E := E.ext ex
 replace B1 := B1.ext ex
 have hw2 : w.heap.size ≤ g2 := (by omega)
 refine wl_nil ?_
 refine wq_then_norm (hK1 ?_)
 refine wc_seq ?_; intro K2 hK2
 refine wc_seq ?_; intro K3 hK3
 refine wc_drawB (by kernel_rfl) 9 rfl ?_; intro wd1 ex hd1
 replace E := E.ext ex
 replace B1 := B1.ext ex
 replace B2 := B2.ext ex
 have E_0 := E
 have B1_0 := B1
 have B2_0 := B2
 have X0 := Ext.refl wd1
 refine wn_y 0 rfl (by kernel_rfl) ((y_loadw rfl Tryz.underlying140 rfl (by rw [ws_size]; kernel_rfl) B1_0)) rfl ?_
 refine wf_start (fl := [flA 6 3 140 (ws z4)]) rfl ?_
 refine wf_call (j := 1) (dst := some 7) ⟨(fall (flA_runs rfl (by kernel_rfl)) fall_nil), by decide, by decide, (fall (⟨rfl, by decide⟩) fall_nil), (fall (mem_of_has (by kernel_rfl)) fall_nil)⟩ (by kernel_rfl) (fall (by decide) fall_nil) rfl Tryz.func208 rfl rfl rfl (fall (by decide) fall_nil) rfl ?_
 intro wf1_1 ex exb
 replace E := E.ext ex
 replace B1 := B1.ext ex
 replace B2 := B2.ext ex
 replace X0 := X0.ext ex
 refine ⟨_, (sorder_any _), ?_⟩
 rintro e w3 ⟨rfl, ex⟩
 refine ⟨_, rfl, ex, ?_⟩
 replace E := E.ext ex
 replace B1 := B1.ext ex
 replace B2 := B2.ext ex
 replace X0 := X0.ext ex
 refine wf_call (j := 2) (dst := some 8) ⟨(fall (flA_runs rfl (by kernel_rfl)) fall_nil), by decide, by decide, (fall (⟨rfl, by decide⟩) fall_nil), (fall (mem_of_has (by kernel_rfl)) fall_nil)⟩ (by kernel_rfl) (fall (by decide) fall_nil) rfl Tryz.func207 rfl rfl rfl (fall (by decide) fall_nil) rfl ?_
 intro wf1_2 ex exb
 replace E := E.ext ex
 replace B1 := B1.ext ex
 replace B2 := B2.ext ex
 replace X0 := X0.ext ex
 refine ⟨_, (ssub_any a Sc.L _ (by omega)), ?_⟩
 rintro e w4 ⟨rfl, ex⟩
 refine ⟨_, rfl, ex, ?_⟩
 replace E := E.ext ex
 replace B1 := B1.ext ex
 replace B2 := B2.ext ex
 replace X0 := X0.ext ex
 rw [hbor]
 refine wf_y (dst := some 5) 3 rfl (by kernel_rfl) (y_move rfl) rfl (fall (by decide) fall_nil) ?_
 refine wf_y (dst := some 9) 4 rfl (by kernel_rfl) (y_extract rfl rfl) rfl (fall (by decide) fall_nil) ?_
 refine wf_y (dst := some 10) 5 rfl (by kernel_rfl) (y_extract rfl rfl) rfl (fall (by decide) fall_nil) ?_
 refine wf_land1 ⟨(fall (flA_runs rfl (by kernel_rfl)) fall_nil), by decide, by decide, (fall (⟨rfl, by decide⟩) fall_nil), (fall (mem_of_has (by kernel_rfl)) fall_nil)⟩ (by kernel_rfl) ?_
 rintro _ wl1 ex ⟨⟨g3, rfl, Bg3⟩, hg3⟩
 replace hg3 := hg3 g3 rfl
 replace E := E.ext ex
 replace B1 := B1.ext ex
 replace B2 := B2.ext ex
 replace X0 := X0.ext ex
 refine wn_one 7 (by kernel_rfl) ?_
 refine on_ef rfl (ef_storeW rfl rfl (by rw [ws_size]; kernel_rfl) Bg3 (by rw [ws_size, ws_size]) (ws_one _)) rfl ?_
 rintro _ wn1_7 ⟨rfl, Bg3, cg⟩
 replace X0 := X0.chg cg hg3
 refine ⟨X0, ?_⟩
 replace E := E_0.ext X0
 replace B1 := B1_0.ext X0
 replace B2 := B2_0.ext X0
 refine wn_y 8 rfl (by kernel_rfl) (y_assign rfl) rfl ?_
 refine wn_done (by kernel_rfl) ?_
 refine wq_nop ?_
 refine wq_then_norm (hK3 ?_)
 refine wc_seq ?_; intro K4 hK4
 refine wc_region ?_
 refine wl_y (y_move rfl) rfl ?_
 refine wl_y (y_eql rfl rfl) rfl ?_
 refine wl_nil ?_
 refine wq_then_norm (hK4 ?_)
 refine wc_dec rfl (fun hc1 => ?_) (fun hc1 => ?_)
 ·skip
  refine wc_seq ?_; intro K5 hK5
  have hlt : ¬ a < Sc.L := fun h => by rw [if_pos h] at hc1; exact absurd hc1 (by decide)
  rw [hge hlt] at Bg3
  refine wc_region ?_
  refine wl_y ((y_loadw rfl Tryz.underlying140 rfl (by rw [ws_size]; kernel_rfl) Bg3)) rfl ?_
  refine wl_ef (ef_storeW rfl rfl (by rw [ws_size]; kernel_rfl) B2 (by rw [ws_size, ws_size]) (ws_one _)) rfl ?_
  rintro _ w6 ⟨rfl, D2, cg⟩
  replace E := E.chg cg hw2
  refine wl_nil ?_
  refine wq_then_norm (hK5 ?_)
  refine wc_ret ?_
  refine wq_then_ret ?_
  refine hret rfl D2 (ws_size _) ?_
  exact ⟨rfl, E⟩
 ·skip
  refine wc_skip ?_
  refine wq_then_norm (hK2 ?_)
  refine wc_seq ?_; intro K6 hK6
  have hlt : a < Sc.L := Classical.byContradiction fun h => by rw [if_neg h] at hc1; exact absurd rfl hc1
  refine wc_region ?_
  refine wl_y ((y_loadw rfl Tryz.underlying140 rfl (by rw [ws_size]; kernel_rfl) B1)) rfl ?_
  refine wl_ef (ef_storeW rfl rfl (by rw [ws_size]; kernel_rfl) B2 (by rw [ws_size, ws_size]) (ws_one _)) rfl ?_
  rintro _ w6 ⟨rfl, D2, cg⟩
  replace E := E.chg cg hw2
  refine wl_nil ?_
  refine wq_then_norm (hK6 ?_)
  refine wc_ret ?_
  refine hret rfl D2 (ws_size _) ?_
  exact ⟨by rw [Nat.mod_eq_of_lt hlt], E⟩
end
section
attribute [local irreducible] Y Ef WL WC WK WQ WM OpM WN WF OpN
theorem shr6 (x k : Nat) (h : k < 64) : (x : Int) / 2 ^ (min ((k : Int)).toNat IntKind.u64.bits) = ((x / 2 ^ k : Nat) : Int) := by
 have e : min ((k : Int)).toNat IntKind.u64.bits = k := by show min k 64 = k; omega
 rw [e, Int.natCast_ediv, Int.natCast_pow]; rfl
namespace Sc
theorem W_two : W = 2 ^ 64 := rfl
theorem bit_of (N b : Nat) : wd N (b / 64) / 2 ^ (b % 64) % 2 = N / 2 ^ b % 2 := by
 unfold wd
 have hr : b % 64 < 64 := Nat.mod_lt _ (by omega)
 have e : W = 2 ^ (b % 64) * (2 * 2 ^ (63 - b % 64)) := by
  rw [W_two, ← Nat.mul_assoc, ← Nat.pow_succ, ← Nat.pow_add]; congr 1; omega
 have hb : 2 ^ b = W ^ (b / 64) * 2 ^ (b % 64) := by
  rw [W_two, ← Nat.pow_mul, ← Nat.pow_add]; congr 1; omega
 rw [hb, ← Nat.div_div_eq_div_mul]
 generalize N / W ^ (b / 64) = x
 rw [e, Nat.mod_mul_right_div_self, Nat.mod_mul_right_mod]
theorem dbl_low (o b : Nat) (hb : b < 2) : wd (o + o) 0 / 2 * 2 = wd (o + o) 0 ∧ wd (o + o + b) 0 = wd (o + o) 0 + b := by
 unfold wd
 simp only [show W = 18446744073709551616 from rfl, Nat.pow_zero, Nat.div_one]
 omega
theorem dbl_high (o b j : Nat) (hb : b < 2) (hj : j ≠ 0) : wd (o + o + b) j = wd (o + o) j := by
 unfold wd
 obtain ⟨k, rfl⟩ : ∃ k, j = k + 1 := ⟨j - 1, by omega⟩
 have e : W ^ (k + 1) = 2 * (9223372036854775808 * W ^ k) := by rw [Nat.pow_succ, show W = 2 * 9223372036854775808 from rfl, ← Nat.mul_assoc 2, Nat.mul_comm _ (2 * 9223372036854775808)]
 rw [e, ← Nat.div_div_eq_div_mul, ← Nat.div_div_eq_div_mul (o + o)]
 congr 2
 omega
theorem or_low (o b : Nat) (hb : b < 2) : bits .or .u64 ((wd (o + o) 0 : Nat) : Int) ((b : Nat) : Int) = ((wd (o + o + b) 0 : Nat) : Int) := by
 have h1 := wd_lt (o + o) 0
 have h2 := dbl_low o b hb
 have h3 := (bits_u64 (p := wd (o + o) 0) (q := b) h1 (by omega)).2.1
 rw [h3, h2.2]
 congr 1
 have e : wd (o + o) 0 = 2 ^ 1 * (wd (o + o) 0 / 2) := by omega
 rw [e, ← Nat.two_pow_add_eq_or_of_lt (by omega : b < 2 ^ 1)]
theorem or_set (o b : Nat) (hb : b < 2) : (ws (wd (o + o))).setIfInBounds (0 + 0) (.int .u64 ((wd (o + o + b) 0 : Nat) : Int)) = ws (wd (o + o + b)) := by
 rw [Nat.zero_add, ws_set]
 refine ws_congr fun j _ => ?_
 split
 ·rename_i h; rw [h]
 ·rename_i h; rw [dbl_high o b j hb h]
theorem red_step (N b : Nat) : (N / 2 ^ (b + 1) % L + N / 2 ^ (b + 1) % L + N / 2 ^ b % 2) % L = N / 2 ^ b % L := by
 have e : N / 2 ^ b = N / 2 ^ (b + 1) * 2 + N / 2 ^ b % 2 := by
  rw [Nat.pow_succ, ← Nat.div_div_eq_div_mul]; omega
 generalize N / 2 ^ (b + 1) = q at *
 generalize N / 2 ^ b % 2 = r at *
 rw [e]
 have h2 : q * 2 + r = L * (q / L * 2) + (q % L + q % L + r) := by
  have h3 := Nat.div_add_mod q L
  have h4 : L * (q / L * 2) = (L * (q / L)) * 2 := by rw [Nat.mul_assoc]
  rw [h4]; omega
 rw [h2, Nat.mul_add_mod_self_left]
theorem L_pos : 0 < L := by rw [L_eq]; omega
end Sc
theorem sreduce_any (A : Option Addr) (n c N : Nat) (w : World) (H : Ns .u64 w A n (Fp.fn n (Sc.wd N))) (hN : N < 2 ^ (64 * n)) (hn : n ≤ 1000) :
  Calls Tryz.prog 209 #[.slice A n c] w fun e w' => e = .returned (.agg (ws (Sc.wd (N % Sc.L)))) ∧ Ext w w' := by
 have E := Ext.refl w
 have hLp := Sc.L_pos
 refine vc_enterc1 (s := 4) 35 Tryz.func209 rfl rfl rfl Tryz.underlying142 rfl (by kernel_rfl) rfl ?_
 intro Q hret
 refine wc_seq ?_; intro K1 hK1
 refine wc_region ?_
 refine wl_ef (ef_alloc (Z := ws z4) (by kernel_rfl)) rfl ?_
 rintro _ w1 ⟨g2, rfl, B2, hg2, ex⟩
 replace E := E.ext ex
 skip
 refine wl_nil ?_
 refine wq_then_norm (hK1 ?_)
 refine wc_scope2 0 (fun n' L wr => ∃ (b g3 : Nat), L = [(0, .slice A n c), (2, .pointer (some ⟨g2, 0, none⟩)), (3, .pointer (some ⟨g3, 0, none⟩)), (4, .int .i64 (b : Int))] ∧ n' = 1 + b ∧ (b ≤ 64 * n ∧ w.heap.size ≤ g3 ∧ g2 < g3 ∧ Ext w wr ∧ Blk wr g2 142 (ws z4) ∧ Blk wr g3 140 (ws (Sc.wd (N / 2 ^ b % Sc.L))))) rfl ?_ ?_
 ·rintro G n' L wr ⟨b, g3, rfl, rfl, hb, hw3, h23, E, B2, B3⟩ hG0
  refine wc_seq ?_; intro K2 hK2
  refine wc_region ?_
  refine wl_y (y_move rfl) rfl ?_
  refine wl_y (y_sub rfl rfl (show IntKind.i64.wrap ((b : Int) - 1) = (b : Int) - 1 from i64_ok (by omega) (by omega))) rfl ?_
  refine wl_y (y_assign rfl) rfl ?_
  refine wl_nil ?_
  refine wq_then_norm (hK2 ?_)
  refine wc_seq ?_; intro K3 hK3
  refine wc_seq ?_; intro K4 hK4
  refine wc_region ?_
  refine wl_y (y_move rfl) rfl ?_
  refine wl_y (y_geq rfl rfl) rfl ?_
  refine wl_nil ?_
  refine wq_then_norm (hK4 ?_)
  refine wc_dec rfl (fun hc1 => ?_) (fun hc1 => ?_)
  ·skip
   refine wc_seq ?_; intro K5 hK5
   obtain ⟨k, rfl⟩ : ∃ k, b = k + 1 := ⟨b - 1, by omega⟩
   rw [show (((k + 1 : Nat) : Int) - 1) = (k : Int) by omega]
   have ho := Nat.mod_lt (N / 2 ^ (k + 1)) hLp
   have hst := Sc.red_step N k
   have hbt := Sc.bit_of N k
   obtain ⟨o, hoe⟩ : ∃ o, o = N / 2 ^ (k + 1) % Sc.L := ⟨_, rfl⟩
   rw [← hoe] at B3 ho hst
   have hb2 : N / 2 ^ k % 2 < 2 := Nat.mod_lt _ (by omega)
   refine wc_region ?_
   refine wl_y ((y_loadw rfl Tryz.underlying140 rfl (by rw [ws_size]; kernel_rfl) B3)) rfl ?_
   refine wl_y ((y_loadw rfl Tryz.underlying140 rfl (by rw [ws_size]; kernel_rfl) B3)) rfl ?_
   refine wl_call Tryz.func214 rfl rfl rfl (sadd_any o o _) rfl ?_
   rintro e w3 ⟨rfl, ex⟩
   refine ⟨_, rfl, ?_⟩
   replace E := E.ext ex
   replace B2 := B2.ext ex
   replace B3 := B3.ext ex
   skip
   refine wl_y (y_move rfl) rfl ?_
   refine wl_y (y_extract rfl rfl) rfl ?_
   refine wl_y (y_extract rfl rfl) rfl ?_
   refine wl_ef (ef_storeW rfl rfl (by rw [ws_size]; kernel_rfl) B3 (by rw [ws_size, ws_size]) (ws_one _)) rfl ?_
   rintro _ w4 ⟨rfl, D3, cg⟩
   replace E := E.chg cg (by omega); replace B2 := B2.chg cg (by omega); replace B3 := D3
   refine wl_nil ?_
   refine wq_then_norm (hK5 ?_)
   refine wc_seq ?_; intro K6 hK6
   refine wc_draw (by kernel_rfl) 14 rfl ?_; intro wd6 ex hd6
   replace E := E.ext ex
   replace B2 := B2.ext ex
   replace B3 := B3.ext ex
   obtain ⟨b1, off1, x, rfl, hx, _, hcx⟩ := (H.ext E).get (i := k / 64) (by omega)
   have hx2 := hx.out
   rw [Fp.fn_get _ (by omega)] at hx2
   subst hx2
   have hxd := Nat.lt_of_le_of_lt (Nat.div_le_self (Sc.wd N (k / 64)) (2 ^ (k % 64))) (Sc.wd_lt N (k / 64))
   refine wm_z 0 rfl (by kernel_rfl) (fun _ => y_ixa1 rfl rfl Tryz.underlying140 (by kernel_rfl) (j := 0) rfl (by omega)) rfl ?_
   refine wm_y 1 rfl (by kernel_rfl) (y_load1 rfl Tryz.underlying38 rfl (B3.get (ws_get _ rfl (by omega)))) rfl ?_
   refine wm_z 2 rfl (by kernel_rfl) (fun _ => y_move rfl) rfl ?_
   refine wm_z 3 rfl (by kernel_rfl) (fun _ => y_move rfl) rfl ?_
   refine wm_z 4 rfl (by kernel_rfl) (fun _ => y_quo rfl rfl (by omega) (show IntKind.i64.wrap ((k : Int).tdiv 64) = ((k / 64 : Nat) : Int) from i64_nat rfl (by omega))) rfl ?_
   refine wm_z 5 rfl (by kernel_rfl) (fun _ => y_ixs1 rfl rfl Tryz.underlying180 (by kernel_rfl) (j := k / 64) rfl (by omega)) rfl ?_
   refine wm_y 6 rfl (by kernel_rfl) (y_load1 rfl Tryz.underlying38 rfl hcx) rfl ?_
   refine wm_z 7 rfl (by kernel_rfl) (fun _ => y_move rfl) rfl ?_
   refine wm_z 8 rfl (by kernel_rfl) (fun _ => y_rem rfl rfl (by omega) (show ((k : Int).tmod 64) = ((k % 64 : Nat) : Int) from rfl)) rfl ?_
   refine wm_z 9 rfl (by kernel_rfl) (fun _ => y_shr rfl rfl (by omega) (shr6 _ _ (Nat.mod_lt _ (by omega)))) rfl ?_
   refine wm_z 10 rfl (by kernel_rfl) (fun _ => y_and rfl rfl (show bits .and .u64 _ 1 = ((N / 2 ^ k % 2 : Nat) : Int) by rw [and1 _ hxd, hbt])) rfl ?_
   refine wm_z 11 rfl (by kernel_rfl) (fun _ => y_or rfl rfl (Sc.or_low o _ hb2)) rfl ?_
   refine wm_z 12 rfl (by kernel_rfl) (fun _ => y_ixa1 rfl rfl Tryz.underlying140 (by kernel_rfl) (j := 0) rfl (by omega)) rfl ?_
   refine wm_one 13 (by kernel_rfl) ?_; refine om_ef rfl (ef_storeB rfl rfl rfl (by kernel_rfl) B3 (by rw [ws_size]; omega)) rfl ?_
   rintro _ w5 ⟨rfl, D3, cg⟩
   refine ⟨.inl rfl, ?_⟩
   rw [Sc.or_set o _ hb2] at D3; replace E := E.chg cg (by omega); replace B2 := B2.chg cg (by omega); replace B3 := D3
   refine wm_done (by kernel_rfl) ?_
   refine wq_nop ?_
   refine wq_then_norm (hK6 ?_)
   refine wc_seq ?_; intro K7 hK7
   refine wc_region ?_
   refine wl_y ((y_loadw rfl Tryz.underlying140 rfl (by rw [ws_size]; kernel_rfl) B3)) rfl ?_
   refine wl_call Tryz.func215 rfl rfl rfl (sonce_any _ _ (by omega)) rfl ?_
   rintro e w6 ⟨rfl, ex⟩
   refine ⟨_, rfl, ?_⟩
   replace E := E.ext ex
   replace B2 := B2.ext ex
   replace B3 := B3.ext ex
   rw [hst]
   refine wl_ef (ef_storeW rfl rfl (by rw [ws_size]; kernel_rfl) B3 (by rw [ws_size, ws_size]) (ws_one _)) rfl ?_
   rintro _ w7 ⟨rfl, D3, cg⟩
   replace E := E.chg cg (by omega); replace B2 := B2.chg cg (by omega); replace B3 := D3
   refine wl_nil ?_
   refine wq_then_norm (hK7 ?_)
   refine wc_goto ?_
   refine wq_then_goto ?_
   refine wq_jump_hit ?_
   refine hG0 _ _ ⟨k, g3, rfl, rfl, by omega, hw3, h23, E, B2, B3⟩ (by omega) ⟨rfl, rfl, rfl, (by first | rfl | exact congrArg some (int_val (by omega))), trivial⟩
  ·skip
   refine wc_skip ?_
   refine wq_then_norm (hK3 ?_)
   refine wc_seq ?_; intro K8 hK8
   obtain rfl : b = 0 := by omega
   rw [Nat.pow_zero, Nat.div_one] at B3
   refine wc_region ?_
   refine wl_y ((y_loadw rfl Tryz.underlying140 rfl (by rw [ws_size]; kernel_rfl) B3)) rfl ?_
   refine wl_y (y_build rfl (cells := ws (Sc.wd (N % Sc.L))) (by kernel_rfl)) rfl ?_
   refine wl_ef (ef_storeW rfl rfl (by rw [ws_size]; kernel_rfl) B2 (by rw [ws_size, ws_size]) (ws_one _)) rfl ?_
   rintro _ w8 ⟨rfl, D2, cg⟩
   replace E := E.chg cg (by omega)
   refine wl_nil ?_
   refine wq_then_norm (hK8 ?_)
   refine wc_ret ?_
   refine wq_jump_ret ?_
   refine hret rfl D2 (ws_size _) ?_
   exact ⟨rfl, E⟩
 ·intro G hG0
  refine wc_seq ?_; intro K9 hK9
  refine wc_region ?_
  have hz := E.size; have hl2 := B2.lt
  refine wl_ef (ef_alloc (Z := ws z4) (by kernel_rfl)) rfl ?_
  rintro _ w2 ⟨g3, rfl, B3, hg3, ex⟩
  replace E := E.ext ex
  replace B2 := B2.ext ex
  replace B3 := B3.congr (show _ = ws (Sc.wd (N / 2 ^ (64 * n) % Sc.L)) by rw [Nat.div_eq_of_lt hN, Nat.zero_mod]; exact ws_congr fun j _ => by unfold z4 Sc.wd; simp)
  refine wl_nil ?_
  refine wq_then_norm (hK9 ?_)
  refine wc_seq ?_; intro K10 hK10
  refine wc_region ?_
  refine wl_y (y_move rfl) rfl ?_
  refine wl_y (y_len_slice rfl Tryz.underlying180) rfl ?_
  refine wl_y (y_mul rfl rfl (show IntKind.i64.wrap (64 * (n : Int)) = ((64 * n : Nat) : Int) from i64_nat (by omega) (by omega))) rfl ?_
  refine wl_y (y_assign rfl) rfl ?_
  refine wl_nil ?_
  refine wq_then_norm (hK10 ?_)
  refine wc_seq ?_; intro KG0 hKG0
  refine wc_label ?_
  refine wq_then_norm (hKG0 ?_)
  exact hG0 _ _ ⟨64 * n, g3, rfl, rfl, by omega, by omega, by omega, E, B2, B3⟩ ⟨rfl, rfl, rfl, (by first | rfl | exact congrArg some (int_val (by omega))), trivial⟩
end
end
end Go.Proofs.YtjllhimhiekchaaGreat
