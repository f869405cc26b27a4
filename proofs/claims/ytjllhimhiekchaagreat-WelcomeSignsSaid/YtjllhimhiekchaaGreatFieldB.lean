/- The field's numbers by what they are worth: Num, Add, Sub, Neg, Mul, Square, Same, Zero, Odd: what each hands back. The field's Same and Zero. -/
import Derived.Test.YtjllhimhiekchaaGreatFieldM
import Derived.Laws.StructEq
import Derived.ChangeKeysEq
namespace Go.Proofs.YtjllhimhiekchaaGreat
section
open Go.RowKit
attribute [local irreducible] Y Ef WL WC WK WQ WM OpM
def Fe (cs : Array Value) (x : Nat) : Prop := ∃ f, cs = fe f ∧ Fp.small f ∧ Fp.val f % Fp.p = x
theorem Fe.lt {cs : Array Value} {x : Nat} (h : Fe cs x) : x < Fp.p := by
 obtain ⟨f, _, _, rfl⟩ := h; exact Nat.mod_lt _ (by unfold Fp.p; omega)
theorem Fe.size {cs : Array Value} {x : Nat} (h : Fe cs x) : cs.size = 5 := by obtain ⟨f, rfl, _⟩ := h; exact fe_size f
theorem Fe.one {cs : Array Value} {x : Nat} (h : Fe cs x) : cs.all (·.oneCell') = true := by obtain ⟨f, rfl, _⟩ := h; exact fe_one f
theorem Fe.zero : Fe (fe (fun _ => 0)) 0 := ⟨_, rfl, fun j _ => by show 0 < _; omega, rfl⟩
theorem fmul_any {cs ds : Array Value} {a b : Nat} (ha : Fe cs a) (hb : Fe ds b) (w : World) :
  Calls Tryz.prog 152 #[.agg cs, .agg ds] w fun e w' => ∃ es, e = .returned (.agg es) ∧ Fe es (a * b % Fp.p) ∧ Ext w w' := by
 obtain ⟨f, rfl, hf, rfl⟩ := ha
 obtain ⟨g, rfl, hg, rfl⟩ := hb
 refine (emul_any f g w hf hg).mono ?_
 rintro e w' ⟨h, rfl, hh, hv, ex⟩
 exact ⟨_, rfl, ⟨h, rfl, hh, by rw [hv, Nat.mul_mod]⟩, ex⟩
theorem fadd_any {cs ds : Array Value} {a b : Nat} (ha : Fe cs a) (hb : Fe ds b) (w : World) :
  Calls Tryz.prog 159 #[.agg cs, .agg ds] w fun e w' => ∃ es, e = .returned (.agg es) ∧ Fe es ((a + b) % Fp.p) ∧ Ext w w' := by
 obtain ⟨f, rfl, hf, rfl⟩ := ha
 obtain ⟨g, rfl, hg, rfl⟩ := hb
 refine vc_enterc1 (s := 5) 24 Tryz.func159 rfl rfl rfl Tryz.underlying135 rfl (by kernel_rfl) rfl ?_
 intro Q hret
 refine wc_seq ?_; intro K1 hK1
 refine wc_region ?_
 refine wl_ef (ef_box (cs := fe f) rfl rfl) rfl ?_
 rintro _ w1 ⟨g1, rfl, B1, hg1, ex⟩
 have E1 := ex; have hl1 := B1.lt
 refine wl_ef (ef_box (cs := fe g) rfl rfl) rfl ?_
 rintro _ w2 ⟨g2, rfl, B2, hg2, ex⟩
 have E2 := E1.ext ex; replace B1 := B1.ext ex; have hl2 := B2.lt
 refine wl_ef (ef_alloc (Z := fe (fun _ => 0)) (by kernel_rfl)) rfl ?_
 rintro _ w3 ⟨g3, rfl, B3, hg3, ex⟩
 have E3 := E2.ext ex; replace B1 := B1.ext ex; replace B2 := B2.ext ex; have hg3' : w.heap.size ≤ g3 := Nat.le_trans E2.size hg3
 refine wl_nil ?_
 refine wq_then_norm (hK1 ?_)
 refine wc_seq ?_; intro K2 hK2
 refine wc_seq ?_; intro K3 hK3
 refine wc_region ?_
 refine wl_y (y_fieldAddr (o := 0) (s := 5) (off := 0) (o' := 0) rfl Tryz.underlying135 rfl (by kernel_rfl) rfl rfl) rfl ?_
 refine wl_y (y_loadw rfl Tryz.underlying133 rfl (by kernel_rfl) B2) rfl ?_
 refine wl_y (y_move rfl) rfl ?_
 refine wl_nil ?_
 refine wq_then_norm (hK3 ?_)
 refine wc_block ?_
 refine wc_loop (fun n' L wr => ∃ i : Nat, L = [(2, .pointer (some ⟨g1, 0, none⟩)), (4, .pointer (some ⟨g3, 0, none⟩)), (8, .agg (fe g)), (9, .int .i64 (i : Int))] ∧ n' = 5 - i ∧ (i ≤ 5 ∧ Ext w wr ∧ Blk wr g1 135 (fe (fun j => if j < i then f j + g j else f j)) ∧ Blk wr g3 135 (fe (fun _ => 0)))) _ _ ⟨0, rfl, rfl, by omega, E3, B1.congr (fe_congr fun j _ => by rw [if_neg (by omega)]), B3⟩ ⟨rfl, rfl, rfl, (by first | rfl | exact congrArg some (int_val (by omega))), trivial⟩ ?_
 rintro KL1 n' L wr ⟨i, rfl, rfl, hi, F, C1, C3⟩ hL1
 refine wc_seq ?_; intro K4 hK4
 refine wc_region ?_
 refine wl_y (y_lss rfl rfl) rfl ?_
 refine wl_nil ?_
 refine wq_then_norm (hK4 ?_)
 refine wc_seq ?_; intro K5 hK5
 refine wc_dec rfl (fun hc1 => ?_) (fun hc1 => ?_)
 ·skip
  refine wc_skip ?_
  refine wq_then_norm (hK5 ?_)
  refine wc_seq ?_; intro K6 hK6
  refine wc_block ?_
  refine wc_seq ?_; intro K7 hK7
  have hfi := hf i (by omega); have hgi := hg i (by omega)
  refine wc_region ?_
  refine wl_y (y_move rfl) rfl ?_
  refine wl_y (y_ix1 rfl rfl Tryz.underlying133 Tryz.underlying38 rfl (by kernel_rfl) rfl (by omega) (fe_get g rfl (by omega))) rfl ?_
  refine wl_y (y_assign rfl) rfl ?_
  refine wl_y (y_assign rfl) rfl ?_
  refine wl_nil ?_
  refine wq_then_norm (hK7 ?_)
  refine wc_region ?_
  refine wl_y (y_move rfl) rfl ?_
  refine wl_y (y_fieldAddr (o := 0) (s := 5) (off := 0) (o' := 0) rfl Tryz.underlying135 rfl (by kernel_rfl) rfl rfl) rfl ?_
  refine wl_y (y_ixa1 rfl rfl Tryz.underlying133 (by kernel_rfl) rfl (by omega)) rfl ?_
  refine wl_y (y_load1 rfl Tryz.underlying38 rfl (C1.get (v := .int .u64 ((f i : Nat) : Int)) (by rw [Nat.zero_add, fe_get _ rfl (by omega), if_neg (by omega)]))) rfl ?_
  refine wl_y (y_move rfl) rfl ?_
  refine wl_y (y_add rfl rfl (u64_nat (n := f i + g i) (by omega) (by omega))) rfl ?_
  refine wl_y (y_fieldAddr (o := 0) (s := 5) (off := 0) (o' := 0) rfl Tryz.underlying135 rfl (by kernel_rfl) rfl rfl) rfl ?_
  refine wl_y (y_ixa1 rfl rfl Tryz.underlying133 (by kernel_rfl) rfl (by omega)) rfl ?_
  refine wl_ef (ef_storeB rfl rfl rfl (by kernel_rfl) C1 (by rw [fe_size]; omega)) rfl ?_
  rintro _ w4 ⟨rfl, B4, cg⟩
  rw [Nat.zero_add, fe_set] at B4; have F4 := F.chg cg hg1; have D3 := C3.chg cg (by omega)
  refine wl_nil ?_
  refine wq_blk_norm ?_
  refine wq_then_norm (hK6 ?_)
  refine wc_region ?_
  refine wl_y (y_add rfl rfl (i64_ok (by omega) (by omega))) rfl ?_
  refine wl_y (y_move rfl) rfl ?_
  refine wl_nil ?_
  refine wq_then_norm ?_
  refine hL1 _ _ ⟨i + 1, rfl, rfl, by omega, F4, B4.congr (fe_congr fun j _ => by
   by_cases h : j = i
   ·subst h; rw [if_pos rfl, if_pos (by omega)]
   ·rw [if_neg h]; by_cases h2 : j < i
    ·rw [if_pos h2, if_pos (by omega)]
    ·rw [if_neg h2, if_neg (by omega)]), D3⟩ (by omega) ⟨rfl, rfl, rfl, (by first | rfl | exact congrArg some (int_val (by omega))), trivial⟩
 ·skip
  refine wc_exit ?_
  refine wq_then_exit ?_
  refine wq_then_exit ?_
  refine wq_blk_hit ?_
  refine wq_then_norm (hK2 ?_)
  refine wc_seq ?_; intro K8 hK8
  have hs : ∀ j, j < 5 → (if j < i then f j + g j else f j) < 18446744073709551616 := fun j hj => by have := hf j hj; have := hg j hj; split <;> omega
  have hv : Fp.val (fun j => if j < i then f j + g j else f j) = Fp.val f + Fp.val g := by
   rw [Fp.val_congr (g := fun j => f j + g j) fun j hj => by rw [if_pos (by omega)]]
   simp only [Fp.val]; omega
  refine wc_region ?_
  refine wl_y (y_loadw rfl Tryz.underlying135 rfl (by kernel_rfl) C1) rfl ?_
  refine wl_call Tryz.func219 rfl rfl rfl (carry_any _ _ hs) rfl ?_
  rintro e w5 ⟨rfl, ex⟩
  refine ⟨_, rfl, ?_⟩
  have F5 := F.ext ex; have D5 := C3.ext ex
  refine wl_ef (ef_storeW rfl rfl (by rw [fe_size]; kernel_rfl) D5 (by rw [fe_size, fe_size]) (fe_one _)) rfl ?_
  rintro _ w6 ⟨rfl, B6, cg⟩
  have F6 := F5.chg cg hg3'
  refine wl_nil ?_
  refine wq_then_norm (hK8 ?_)
  refine wc_ret ?_
  refine hret rfl B6 (fe_size _) ?_
  exact ⟨_, rfl, ⟨_, rfl, Fp.carry_small hs, by rw [Fp.val_mod_carry, hv, Nat.add_mod]⟩, F6⟩
def twice (j : Nat) : Nat := if j = 0 then 4503599627370458 else 4503599627370494
theorem twice_le (j : Nat) : 4503599627370458 ≤ twice j ∧ twice j ≤ 4503599627370494 := by unfold twice; split <;> omega
theorem sub_mod {F G a b p : Nat} (hF : F % p = a) (hG : G % p = b) (hb : b < p) (hG2 : G ≤ F + 2 * p) : (F + 2 * p - G) % p = (a + p - b) % p := by
 have e1 := Nat.div_add_mod F p
 have e2 := Nat.div_add_mod G p
 rw [hF] at e1; rw [hG] at e2
 have h : F + 2 * p - G + p * (G / p) = a + p - b + p * (F / p + 1) := by
  rw [Nat.mul_add, Nat.mul_one]
  omega
 rw [← Nat.add_mul_mod_self_left (F + 2 * p - G) p (G / p), h, Nat.add_mul_mod_self_left]
theorem fsub_any {cs ds : Array Value} {a b : Nat} (ha : Fe cs a) (hb : Fe ds b) (w : World) :
  Calls Tryz.prog 223 #[.agg cs, .agg ds] w fun e w' => ∃ es, e = .returned (.agg es) ∧ Fe es ((a + Fp.p - b) % Fp.p) ∧ Ext w w' := by
 have hbl := hb.lt
 obtain ⟨f, rfl, hf, hfa⟩ := ha
 obtain ⟨g, rfl, hg, hgb⟩ := hb
 refine vc_enterc1 (s := 5) 29 Tryz.func223 rfl rfl rfl Tryz.underlying135 rfl (by kernel_rfl) rfl ?_
 intro Q hret
 refine wc_seq ?_; intro K1 hK1
 refine wc_region ?_
 refine wl_ef (ef_box (cs := fe f) rfl rfl) rfl ?_
 rintro _ w1 ⟨g1, rfl, B1, hg1, ex⟩
 have E1 := ex; have hl1 := B1.lt
 refine wl_ef (ef_box (cs := fe g) rfl rfl) rfl ?_
 rintro _ w2 ⟨g2, rfl, B2, hg2, ex⟩
 have E2 := E1.ext ex; replace B1 := B1.ext ex; have hl2 := B2.lt
 refine wl_ef (ef_alloc (Z := fe (fun _ => 0)) (by kernel_rfl)) rfl ?_
 rintro _ w3 ⟨g3, rfl, B3, hg3, ex⟩
 have E3 := E2.ext ex; replace B1 := B1.ext ex; replace B2 := B2.ext ex; have hg3' : w.heap.size ≤ g3 := Nat.le_trans E2.size hg3; have hl3 := B3.lt
 refine wl_nil ?_
 refine wq_then_norm (hK1 ?_)
 refine wc_seq ?_; intro K2 hK2
 refine wc_region ?_
 refine wl_y (y_build rfl (cells := fe twice) (by kernel_rfl)) rfl ?_
 refine wl_ef (ef_alloc (Z := fe (fun _ => 0)) (by kernel_rfl)) rfl ?_
 rintro _ w4 ⟨g4, rfl, B4, hg4, ex⟩
 have E4 := E3.ext ex; replace B1 := B1.ext ex; replace B2 := B2.ext ex; replace B3 := B3.ext ex; have hg4' : w.heap.size ≤ g4 := Nat.le_trans E3.size hg4
 refine wl_ef (ef_storeW rfl rfl (by kernel_rfl) B4 (by rw [fe_size, fe_size]) (fe_one _)) rfl ?_
 rintro _ w5 ⟨rfl, B5, cg⟩
 have E5 := E4.chg cg hg4'; replace B1 := B1.chg cg (by omega); replace B2 := B2.chg cg (by omega); replace B3 := B3.chg cg (by omega)
 refine wl_nil ?_
 refine wq_then_norm (hK2 ?_)
 refine wc_seq ?_; intro K3 hK3
 refine wc_seq ?_; intro K4 hK4
 refine wc_region ?_
 refine wl_y (y_move rfl) rfl ?_
 refine wl_nil ?_
 refine wq_then_norm (hK4 ?_)
 refine wc_block ?_
 refine wc_loop (fun n' L wr => ∃ i : Nat, L = [(2, .pointer (some ⟨g1, 0, none⟩)), (3, .pointer (some ⟨g2, 0, none⟩)), (4, .pointer (some ⟨g3, 0, none⟩)), (5, .pointer (some ⟨g4, 0, none⟩)), (8, .int .i64 (i : Int))] ∧ n' = 5 - i ∧ (i ≤ 5 ∧ Ext w wr ∧ Blk wr g1 135 (fe (fun j => if j < i then f j + (twice j - g j) else f j)) ∧ Blk wr g2 135 (fe g) ∧ Blk wr g3 135 (fe (fun _ => 0)) ∧ Blk wr g4 133 (fe twice))) _ _ ⟨0, rfl, rfl, by omega, E5, B1.congr (fe_congr fun j _ => by rw [if_neg (by omega)]), B2, B3, B5⟩ ⟨rfl, rfl, rfl, rfl, (by first | rfl | exact congrArg some (int_val (by omega))), trivial⟩ ?_
 rintro KL1 n' L wr ⟨i, rfl, rfl, hi, F, C1, C2, C3, C4⟩ hL1
 refine wc_seq ?_; intro K5 hK5
 refine wc_region ?_
 refine wl_y (y_lss rfl rfl) rfl ?_
 refine wl_nil ?_
 refine wq_then_norm (hK5 ?_)
 refine wc_seq ?_; intro K6 hK6
 refine wc_dec rfl (fun hc1 => ?_) (fun hc1 => ?_)
 ·skip
  refine wc_skip ?_
  refine wq_then_norm (hK6 ?_)
  refine wc_seq ?_; intro K7 hK7
  refine wc_block ?_
  refine wc_seq ?_; intro K8 hK8
  refine wc_region ?_
  refine wl_y (y_move rfl) rfl ?_
  refine wl_y (y_assign rfl) rfl ?_
  refine wl_nil ?_
  refine wq_then_norm (hK8 ?_)
  have hfi := hf i (by omega); have hgi := hg i (by omega); have htw := twice_le i
  refine wc_draw (by kernel_rfl) 16 rfl ?_; intro wd5 ex hd5
  replace F := F.ext ex; replace C1 := C1.ext ex; replace C2 := C2.ext ex; replace C3 := C3.ext ex; replace C4 := C4.ext ex
  refine wm_z 0 rfl (by kernel_rfl) (fun _ => y_move rfl) rfl ?_
  refine wm_z 1 rfl (by kernel_rfl) (fun _ => y_fieldAddr (o := 0) (s := 5) (off := 0) (o' := 0) rfl Tryz.underlying135 rfl (by kernel_rfl) rfl rfl) rfl ?_
  refine wm_z 2 rfl (by kernel_rfl) (fun _ => y_ixa1 rfl rfl Tryz.underlying133 (by kernel_rfl) rfl (by omega)) rfl ?_
  refine wm_y 3 rfl (by kernel_rfl) (y_load1 rfl Tryz.underlying38 rfl (C1.get (v := .int .u64 ((f i : Nat) : Int)) (by rw [Nat.zero_add, fe_get _ rfl (by omega), if_neg (by omega)]))) rfl ?_
  refine wm_z 4 rfl (by kernel_rfl) (fun _ => y_move rfl) rfl ?_
  refine wm_z 5 rfl (by kernel_rfl) (fun _ => y_ixa1 rfl rfl Tryz.underlying133 (by kernel_rfl) rfl (by omega)) rfl ?_
  refine wm_y 6 rfl (by kernel_rfl) (y_load1 rfl Tryz.underlying38 rfl (C4.get (fe_get twice (by rw [Nat.zero_add]) (by omega)))) rfl ?_
  refine wm_z 7 rfl (by kernel_rfl) (fun _ => y_move rfl) rfl ?_
  refine wm_z 8 rfl (by kernel_rfl) (fun _ => y_fieldAddr (o := 0) (s := 5) (off := 0) (o' := 0) rfl Tryz.underlying135 rfl (by kernel_rfl) rfl rfl) rfl ?_
  refine wm_z 9 rfl (by kernel_rfl) (fun _ => y_ixa1 rfl rfl Tryz.underlying133 (by kernel_rfl) rfl (by omega)) rfl ?_
  refine wm_y 10 rfl (by kernel_rfl) (y_load1 rfl Tryz.underlying38 rfl (C2.get (fe_get g (by rw [Nat.zero_add]) (by omega)))) rfl ?_
  refine wm_z 11 rfl (by kernel_rfl) (fun _ => y_sub rfl rfl (u64_nat (n := twice i - g i) (by omega) (by omega))) rfl ?_
  refine wm_z 12 rfl (by kernel_rfl) (fun _ => y_add rfl rfl (u64_nat (n := f i + (twice i - g i)) (by omega) (by omega))) rfl ?_
  refine wm_z 13 rfl (by kernel_rfl) (fun _ => y_fieldAddr (o := 0) (s := 5) (off := 0) (o' := 0) rfl Tryz.underlying135 rfl (by kernel_rfl) rfl rfl) rfl ?_
  refine wm_z 14 rfl (by kernel_rfl) (fun _ => y_ixa1 rfl rfl Tryz.underlying133 (by kernel_rfl) rfl (by omega)) rfl ?_
  refine wm_one 15 (by kernel_rfl) ?_; refine om_ef rfl (ef_storeB rfl rfl rfl (by kernel_rfl) C1 (by rw [fe_size]; omega)) rfl ?_
  rintro _ w6 ⟨rfl, B6, cg⟩
  refine ⟨.inl rfl, ?_⟩
  rw [Nat.zero_add, fe_set] at B6; have F6 := F.chg cg hg1; have D2 := C2.chg cg (by omega); have D3 := C3.chg cg (by omega); have D4 := C4.chg cg (by omega)
  refine wm_done (by kernel_rfl) ?_
  refine wq_nop ?_
  refine wq_blk_norm ?_
  refine wq_then_norm (hK7 ?_)
  refine wc_region ?_
  refine wl_y (y_add rfl rfl (i64_ok (by omega) (by omega))) rfl ?_
  refine wl_y (y_move rfl) rfl ?_
  refine wl_nil ?_
  refine wq_then_norm ?_
  refine hL1 _ _ ⟨i + 1, rfl, rfl, by omega, F6, B6.congr (fe_congr fun j _ => by
   by_cases h : j = i
   ·subst h; rw [if_pos rfl, if_pos (by omega)]
   ·rw [if_neg h]; by_cases h2 : j < i
    ·rw [if_pos h2, if_pos (by omega)]
    ·rw [if_neg h2, if_neg (by omega)]), D2, D3, D4⟩ (by omega) ⟨rfl, rfl, rfl, rfl, (by first | rfl | exact congrArg some (int_val (by omega))), trivial⟩
 ·skip
  refine wc_exit ?_
  refine wq_then_exit ?_
  refine wq_then_exit ?_
  refine wq_blk_hit ?_
  refine wq_then_norm (hK3 ?_)
  refine wc_seq ?_; intro K9 hK9
  have hs : ∀ j, j < 5 → (if j < i then f j + (twice j - g j) else f j) < 18446744073709551616 := fun j hj => by have := hf j hj; have := twice_le j; split <;> omega
  have hv : Fp.val (fun j => if j < i then f j + (twice j - g j) else f j) = Fp.val f + 2 * Fp.p - Fp.val g ∧ Fp.val g ≤ Fp.val f + 2 * Fp.p := by
   rw [Fp.val_congr (g := fun j => f j + (twice j - g j)) fun j hj => by rw [if_pos (by omega)]]
   have h0 := hg 0 (by omega); have h1 := hg 1 (by omega); have h2 := hg 2 (by omega); have h3 := hg 3 (by omega); have h4 := hg 4 (by omega)
   simp only [Fp.val, twice, Fp.p]
   simp
   omega
  refine wc_region ?_
  refine wl_y (y_loadw rfl Tryz.underlying135 rfl (by kernel_rfl) C1) rfl ?_
  refine wl_call Tryz.func219 rfl rfl rfl (carry_any _ _ hs) rfl ?_
  rintro e w7 ⟨rfl, ex⟩
  refine ⟨_, rfl, ?_⟩
  have F7 := F.ext ex; have D3 := C3.ext ex
  refine wl_ef (ef_storeW rfl rfl (by rw [fe_size]; kernel_rfl) D3 (by rw [fe_size, fe_size]) (fe_one _)) rfl ?_
  rintro _ w8 ⟨rfl, B8, cg⟩
  have F8 := F7.chg cg hg3'
  refine wl_nil ?_
  refine wq_then_norm (hK9 ?_)
  refine wc_ret ?_
  refine hret rfl B8 (fe_size _) ?_
  exact ⟨_, rfl, ⟨_, rfl, Fp.carry_small hs, by rw [Fp.val_mod_carry, hv.1]; exact sub_mod hfa hgb hbl hv.2⟩, F8⟩
theorem fneg_any {cs : Array Value} {a : Nat} (ha : Fe cs a) (w : World) :
  Calls Tryz.prog 205 #[.agg cs] w fun e w' => ∃ es, e = .returned (.agg es) ∧ Fe es ((Fp.p - a) % Fp.p) ∧ Ext w w' := by
 have hsz := ha.size
 refine vc_enterc1 (s := 5) 6 Tryz.func205 rfl rfl rfl Tryz.underlying135 rfl (by kernel_rfl) rfl ?_
 intro Q hret
 refine wc_seq ?_; intro K1 hK1
 refine wc_region ?_
 refine wl_ef (ef_box (cs := cs) rfl rfl) rfl ?_
 rintro _ w1 ⟨g1, rfl, B1, hg1, ex⟩
 have E1 := ex
 refine wl_ef (ef_alloc (Z := fe (fun _ => 0)) (by kernel_rfl)) rfl ?_
 rintro _ w2 ⟨g2, rfl, B2, hg2, ex⟩
 have E2 := E1.ext ex; replace B1 := B1.ext ex; have hg2' : w.heap.size ≤ g2 := Nat.le_trans E1.size hg2
 refine wl_nil ?_
 refine wq_then_norm (hK1 ?_)
 refine wc_seq ?_; intro K2 hK2
 refine wc_region ?_
 refine wl_y (y_build rfl (cells := fe (fun _ => 0)) (by kernel_rfl)) rfl ?_
 refine wl_y ((y_loadw rfl Tryz.underlying135 rfl (by rw [hsz]; kernel_rfl) B1)) rfl ?_
 refine wl_call Tryz.func223 rfl rfl rfl (fsub_any Fe.zero ha _) rfl ?_
 rintro e w3 ⟨es, rfl, he, ex⟩
 refine ⟨_, rfl, ?_⟩
 rw [Nat.zero_add] at he; have E3 := E2.ext ex; have D2 := B2.ext ex
 refine wl_ef (ef_storeW rfl rfl (by rw [he.size]; kernel_rfl) D2 (by rw [fe_size, he.size]) he.one) rfl ?_
 rintro _ w4 ⟨rfl, B4, cg⟩
 have E4 := E3.chg cg hg2'
 refine wl_nil ?_
 refine wq_then_norm (hK2 ?_)
 refine wc_ret ?_
 refine hret rfl B4 he.size ?_
 exact ⟨es, rfl, he, E4⟩
theorem fsquare_any {cs : Array Value} {a : Nat} (ha : Fe cs a) (w : World) :
  Calls Tryz.prog 222 #[.agg cs] w fun e w' => ∃ es, e = .returned (.agg es) ∧ Fe es (a * a % Fp.p) ∧ Ext w w' := by
 have hsz := ha.size
 refine vc_enterc1 (s := 5) 6 Tryz.func222 rfl rfl rfl Tryz.underlying135 rfl (by kernel_rfl) rfl ?_
 intro Q hret
 refine wc_seq ?_; intro K1 hK1
 refine wc_region ?_
 refine wl_ef (ef_box (cs := cs) rfl rfl) rfl ?_
 rintro _ w1 ⟨g1, rfl, B1, hg1, ex⟩
 have E1 := ex
 refine wl_ef (ef_alloc (Z := fe (fun _ => 0)) (by kernel_rfl)) rfl ?_
 rintro _ w2 ⟨g2, rfl, B2, hg2, ex⟩
 have E2 := E1.ext ex; replace B1 := B1.ext ex; have hg2' : w.heap.size ≤ g2 := Nat.le_trans E1.size hg2
 refine wl_nil ?_
 refine wq_then_norm (hK1 ?_)
 refine wc_seq ?_; intro K2 hK2
 refine wc_region ?_
 refine wl_y ((y_loadw rfl Tryz.underlying135 rfl (by rw [hsz]; kernel_rfl) B1)) rfl ?_
 refine wl_y ((y_loadw rfl Tryz.underlying135 rfl (by rw [hsz]; kernel_rfl) B1)) rfl ?_
 refine wl_call Tryz.func152 rfl rfl rfl (fmul_any ha ha _) rfl ?_
 rintro e w3 ⟨es, rfl, he, ex⟩
 refine ⟨_, rfl, ?_⟩
 have E3 := E2.ext ex; have D2 := B2.ext ex
 refine wl_ef (ef_storeW rfl rfl (by rw [he.size]; kernel_rfl) D2 (by rw [fe_size, he.size]) he.one) rfl ?_
 rintro _ w4 ⟨rfl, B4, cg⟩
 have E4 := E3.chg cg hg2'
 refine wl_nil ?_
 refine wq_then_norm (hK2 ?_)
 refine wc_ret ?_
 refine hret rfl B4 he.size ?_
 exact ⟨es, rfl, he, E4⟩
theorem fnum_any (n : Nat) (w : World) (hn : n < 18446744073709551616) :
  Calls Tryz.prog 151 #[.int .u64 (n : Int)] w fun e w' => ∃ es, e = .returned (.agg es) ∧ Fe es n ∧ Ext w w' := by
 obtain ⟨h, hh⟩ : ∃ h : Nat → Nat, h = fun j => if j = 0 then n % 2251799813685248 else if j = 1 then n / 2251799813685248 else 0 := ⟨_, rfl⟩
 have hsm : Fp.small h := fun j _ => by rw [hh]; show (if j = 0 then n % 2251799813685248 else if j = 1 then n / 2251799813685248 else 0) < _; split <;> (try split) <;> omega
 refine vc_enterc1 (s := 5) 9 Tryz.func151 rfl rfl rfl Tryz.underlying135 rfl (by kernel_rfl) rfl ?_
 intro Q hret
 refine wc_seq ?_; intro K1 hK1
 refine wc_region ?_
 refine wl_ef (ef_alloc (Z := fe (fun _ => 0)) (by kernel_rfl)) rfl ?_
 rintro _ w1 ⟨g1, rfl, B1, hg1, ex⟩
 have E1 := ex
 refine wl_nil ?_
 refine wq_then_norm (hK1 ?_)
 refine wc_seq ?_; intro K2 hK2
 refine wc_region ?_
 refine wl_y (y_move rfl) rfl ?_
 refine wl_y (y_and rfl rfl (and51 _ hn)) rfl ?_
 refine wl_y (y_move rfl) rfl ?_
 refine wl_y (y_shr rfl rfl (by omega) (shr51 _ hn)) rfl ?_
 refine wl_y (y_build rfl (cells := fe h) (by rw [hh]; kernel_rfl)) rfl ?_
 refine wl_y (y_build rfl (cells := fe h) (by rw [hh]; kernel_rfl)) rfl ?_
 refine wl_ef (ef_storeW rfl rfl (by rw [fe_size]; kernel_rfl) B1 (by rw [fe_size, fe_size]) (fe_one _)) rfl ?_
 rintro _ w2 ⟨rfl, B2, cg⟩
 have E2 := E1.chg cg hg1
 refine wl_nil ?_
 refine wq_then_norm (hK2 ?_)
 refine wc_ret ?_
 refine hret rfl B2 (fe_size _) ?_
 exact ⟨_, rfl, ⟨h, rfl, hsm, by rw [hh]; simp only [Fp.val, Fp.p]; simp; omega⟩, E2⟩
theorem fe_whole (f : Nat → Nat) : (fe f).extract 0 (0 + 5) = fe f := rfl
theorem and1 (x : Nat) (hx : x < 18446744073709551616) : bits .and .u64 (x : Int) 1 = ((x % 2 : Nat) : Int) := by
 have h := (bits_u64 (p := x) (q := 1) hx (by omega)).1
 rw [show ((1 : Int)) = ((1 : Nat) : Int) from rfl, h, Nat.and_one_is_mod]
theorem fodd_any {cs : Array Value} {a : Nat} (ha : Fe cs a) (w : World) :
  Calls Tryz.prog 163 #[.agg cs] w fun e w' => e = .returned (.bool (decide (a % 2 = 1))) ∧ Ext w w' := by
 obtain ⟨f, rfl, hf, hfa⟩ := ha
 refine vc_enter1 9 Tryz.func163 rfl rfl rfl rfl ?_
 intro Q hret
 refine wc_seq ?_; intro K1 hK1
 refine wc_region ?_
 refine wl_ef (ef_box (cs := fe f) rfl rfl) rfl ?_
 rintro _ w1 ⟨g1, rfl, B1, hg1, ex⟩
 have E1 := ex
 refine wl_y (y_assign rfl) rfl ?_
 refine wl_nil ?_
 refine wq_then_norm (hK1 ?_)
 refine wc_seq ?_; intro K2 hK2
 refine wc_region ?_
 refine wl_y (y_loadw rfl Tryz.underlying135 rfl (by kernel_rfl) B1) rfl ?_
 refine wl_call Tryz.func225 rfl rfl rfl (least_any f _ hf) rfl ?_
 rintro e w2 ⟨rfl, ex⟩
 refine ⟨_, rfl, ?_⟩
 rw [hfa]; have E2 := E1.ext ex; have hl := Fp.limb_lt a 0
 refine wl_y (y_fieldw (o := 0) (s := 5) rfl Tryz.underlying135 rfl Tryz.underlying133 rfl (by kernel_rfl) (fe_whole _)) rfl ?_
 refine wl_y (y_ix1 rfl rfl Tryz.underlying133 Tryz.underlying38 rfl (by kernel_rfl) (j := 0) rfl (by omega) (fe_get _ (j := 0) rfl (by omega))) rfl ?_
 refine wl_y (y_and rfl rfl (and1 _ (by omega))) rfl ?_
 refine wl_y (y_eql rfl rfl) rfl ?_
 refine wl_y (y_assign rfl) rfl ?_
 refine wl_nil ?_
 refine wq_then_norm (hK2 ?_)
 refine wc_ret ?_
 refine hret rfl ?_
 exact ⟨ret_bool (by simp only [Fp.limb, Nat.pow_zero, Nat.div_one]; omega), E2⟩
end
section
open Go.RowKit Go.ChangeMaps
theorem beq_nat (a b : Nat) : ((a : Int) == (b : Int)) = decide (a = b) := by
 by_cases h : a = b
 ·subst h; simp
 ·rw [decide_eq_false h]; simp; omega
theorem part_u64 (f : Nat → Nat) {j : Nat} (hj : j < 5) (w : World) : (part 38 (fe f) j).run Tryz.prog w = .ok (.int .u64 ((f j : Nat) : Int)) w := by
 have h : (fe f)[j]? = some (.int .u64 ((f j : Nat) : Int)) := fe_get f rfl hj
 simp [part, isAgg_no Tryz.underlying38 rfl w, h]
theorem run_eqE (f g : Nat → Nat) (w : World) : (binOp .eql 135 (.agg (fe f)) (.agg (fe g))).run Tryz.prog w = .ok (.bool (decide (f 0 = g 0 ∧ f 1 = g 1 ∧ f 2 = g 2 ∧ f 3 = g 3 ∧ f 4 = g 4))) w := by
 rw [run_eql_struct]
 rw [run_equalIn_struct w 9999 _ _ _ (by simp [Program.fieldsOf, Tryz.underlying135]) (by kernel_rfl)]
 have hfs : (Tryz.prog.fieldsOf 135).toList = [{ name := "l", type := 133, offset := 0, embedded := false, tag := "", pkgPath := "ratline/field", byteOffset := 0 }] := by simp [Program.fieldsOf, Tryz.underlying135]
 rw [hfs]
 have hp : ∀ h : Nat → Nat, (part 133 (fe h) 0).run Tryz.prog w = .ok (.agg (fe h)) w := fun h => by
  have hs : (sizeOf 133).run Tryz.prog w = .ok 5 w := size_of_info (by kernel_rfl) w
  simp [part, isAgg_yes Tryz.underlying133 rfl w, hs]
  exact .inr (by rw [fe_size]; omega)
 simp only [Op.eqFields]
 rw [if_pos (show "l" ≠ "_" by decide)]
 simp only [Sem.run_bind, hp, Result.andThen_ok]
 obtain ⟨i, hi⟩ : ∃ i, Tryz.prog.info? 38 = some i := Option.isSome_iff_exists.1 (by kernel_rfl)
 have hc : Tryz.prog.cellsOf 38 = 1 := by kernel_rfl
 rw [run_equalIn_array w 9998 (fe f) (fe g) Tryz.underlying133 hi, hc, show List.range 5 = [0, 1, 2, 3, 4] from rfl]
 have he : ∀ a b : Nat, (Op.equalIn 9998 38 (.int .u64 (a : Int)) (.int .u64 (b : Int))).run Tryz.prog w = .ok (decide (a = b)) w := fun a b => by
  rw [run_equalIn_int w 9997 _ .u64 .u64 _ _ Tryz.underlying38]
  rw [beq_nat]
 have P : ∀ h : Nat → Nat, ∀ j, j < 5 → (part 38 (fe h) j).run Tryz.prog w = .ok (.int .u64 ((h j : Nat) : Int)) w := fun h j hj => part_u64 h hj w
 simp only [Op.eqItems, Nat.mul_one, Sem.run_bind, P f 0 (by omega), P f 1 (by omega), P f 2 (by omega), P f 3 (by omega), P f 4 (by omega), P g 0 (by omega), P g 1 (by omega), P g 2 (by omega), P g 3 (by omega), P g 4 (by omega), he, Result.andThen_ok, Sem.run_ite, Sem.run_pure]
 by_cases h0 : f 0 = g 0 <;> by_cases h1 : f 1 = g 1 <;> by_cases h2 : f 2 = g 2 <;> by_cases h3 : f 3 = g 3 <;> by_cases h4 : f 4 = g 4 <;> simp [h0, h1, h2, h3, h4]
theorem y_eqE {f g : Nat → Nat} {L : List (Nat × Value)} {w : World} {x y : Operand} {ty t' : TypeId} (hx : ev L x = some (.agg (fe f))) (hy : ev L y = some (.agg (fe g))) :
  Y Tryz.prog L w (.binOp .eql 135 x y t') ty (.bool (decide (f 0 = g 0 ∧ f 1 = g 1 ∧ f 2 = g 2 ∧ f 3 = g 3 ∧ f 4 = g 4))) := fun ρ hρ w' _ _ _ _ _ => by
 have hg := run_eqGuard_agg (P := Tryz.prog) w' .eql 135 x y (fe f) (fe g) (by kernel_rfl)
 simp [execOp, hρ _ _ hx, hρ _ _ hy, hg, run_eqE f g w']
attribute [local irreducible] Y Ef WL WC WK WQ WM OpM
theorem limb_inj {a b : Nat} (ha : a < Fp.p) (hb : b < Fp.p) : (Fp.limb a 0 = Fp.limb b 0 ∧ Fp.limb a 1 = Fp.limb b 1 ∧ Fp.limb a 2 = Fp.limb b 2 ∧ Fp.limb a 3 = Fp.limb b 3 ∧ Fp.limb a 4 = Fp.limb b 4) ↔ a = b := by
 constructor
 ·rintro ⟨h0, h1, h2, h3, h4⟩
  have e : Fp.val (Fp.limb a) = Fp.val (Fp.limb b) := by unfold Fp.val; rw [h0, h1, h2, h3, h4]
  unfold Fp.p at ha hb
  rwa [Fp.limb_val a (by omega), Fp.limb_val b (by omega)] at e
 ·rintro rfl; exact ⟨rfl, rfl, rfl, rfl, rfl⟩
theorem fsame_any {cs ds : Array Value} {a b : Nat} (ha : Fe cs a) (hb : Fe ds b) (w : World) :
  Calls Tryz.prog 211 #[.agg cs, .agg ds] w fun e w' => e = .returned (.bool (decide (a = b))) ∧ Ext w w' := by
 have hal := ha.lt; have hbl := hb.lt
 obtain ⟨f, rfl, hf, hfa⟩ := ha
 obtain ⟨g, rfl, hg, hgb⟩ := hb
 refine vc_enter1 10 Tryz.func211 rfl rfl rfl rfl ?_
 intro Q hret
 refine wc_seq ?_; intro K1 hK1
 refine wc_region ?_
 refine wl_ef (ef_box (cs := fe f) rfl rfl) rfl ?_
 rintro _ w1 ⟨g1, rfl, B1, hg1, ex⟩
 have E1 := ex
 refine wl_ef (ef_box (cs := fe g) rfl rfl) rfl ?_
 rintro _ w2 ⟨g2, rfl, B2, hg2, ex⟩
 have E := E1.ext ex; replace B1 := B1.ext ex
 refine wl_y (y_assign rfl) rfl ?_
 refine wl_nil ?_
 refine wq_then_norm (hK1 ?_)
 refine wc_seq ?_; intro K2 hK2
 refine wc_draw (by kernel_rfl) 6 rfl ?_; intro wd1 ex hd1
 replace E := E.ext ex
 replace B1 := B1.ext ex
 replace B2 := B2.ext ex
 refine wm_y 0 rfl (by kernel_rfl) (y_loadw rfl Tryz.underlying135 rfl (by kernel_rfl) B1) rfl ?_
 refine wm_y 2 rfl (by kernel_rfl) (y_loadw rfl Tryz.underlying135 rfl (by kernel_rfl) B2) rfl ?_
 refine wm_one 1 (by kernel_rfl) ?_; refine om_call rfl Tryz.func225 rfl rfl rfl (least_any f _ hf) rfl ?_
 rintro e w3 ⟨rfl, ex⟩
 refine ⟨_, rfl, .inr ex, ?_⟩
 replace E := E.ext ex
 replace B1 := B1.ext ex
 replace B2 := B2.ext ex
 rw [hfa]
 refine wm_one 3 (by kernel_rfl) ?_; refine om_call rfl Tryz.func225 rfl rfl rfl (least_any g _ hg) rfl ?_
 rintro e w4 ⟨rfl, ex⟩
 refine ⟨_, rfl, .inr ex, ?_⟩
 replace E := E.ext ex
 replace B1 := B1.ext ex
 replace B2 := B2.ext ex
 rw [hgb]
 refine wm_y 4 rfl (by kernel_rfl) ((y_eqE rfl rfl)) rfl ?_
 refine wm_y 5 rfl (by kernel_rfl) (y_assign rfl) rfl ?_
 refine wm_done (by kernel_rfl) ?_
 refine wq_nop ?_
 refine wq_then_norm (hK2 ?_)
 refine wc_ret ?_
 refine hret rfl ?_
 exact ⟨ret_bool (limb_inj hal hbl), E⟩
theorem fzero_any {cs : Array Value} {a : Nat} (ha : Fe cs a) (w : World) :
  Calls Tryz.prog 204 #[.agg cs] w fun e w' => e = .returned (.bool (decide (a = 0))) ∧ Ext w w' := by
 have hsz := ha.size
 refine vc_enter1 6 Tryz.func204 rfl rfl rfl rfl ?_
 intro Q hret
 refine wc_seq ?_; intro K1 hK1
 refine wc_region ?_
 refine wl_ef (ef_box (cs := cs) rfl rfl) rfl ?_
 rintro _ w1 ⟨g1, rfl, B1, hg1, ex⟩
 have E1 := ex
 refine wl_y (y_assign rfl) rfl ?_
 refine wl_nil ?_
 refine wq_then_norm (hK1 ?_)
 refine wc_seq ?_; intro K2 hK2
 refine wc_region ?_
 refine wl_y ((y_loadw rfl Tryz.underlying135 rfl (by rw [hsz]; kernel_rfl) B1)) rfl ?_
 refine wl_y (y_build rfl (cells := fe (fun _ => 0)) (by kernel_rfl)) rfl ?_
 refine wl_call Tryz.func211 rfl rfl rfl (fsame_any ha Fe.zero _) rfl ?_
 rintro e w2 ⟨rfl, ex⟩
 refine ⟨_, rfl, ?_⟩
 have E2 := E1.ext ex
 refine wl_y (y_assign rfl) rfl ?_
 refine wl_nil ?_
 refine wq_then_norm (hK2 ?_)
 refine wc_ret ?_
 refine hret rfl ?_
 exact ⟨rfl, E2⟩
end
end Go.Proofs.YtjllhimhiekchaaGreat
