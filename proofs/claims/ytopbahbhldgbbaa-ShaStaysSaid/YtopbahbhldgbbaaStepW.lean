/- sha.step where the state stands at the beginning of a greater block. -/
import Derived.Test.YtopbahbhldgbbaaStepL
import Derived.Test.YtopbahbhldgbbaaSha3
namespace Go.Proofs.Ytopbahbhldgbbaa
open Go.RowKit
attribute [local irreducible] Y Ef WL WC WK WQ WM OpM WN WF OpN
theorem front {s : Sha.S8} {ex : Array Value} (j : Nat) (v : Value) (h : (nums .u32 s.list)[j]? = some v) : (nums .u32 s.list ++ ex)[0 + j]? = some v := by
  rw [Nat.zero_add, Array.getElem?_append_left (Array.getElem?_eq_some_iff.1 h).1]; exact h
theorem rightE_any (x : Nat) (n : Int) (w : World) (hx : x < 4294967296) (hn : n = 7 ∨ n = 18 ∨ n = 17 ∨ n = 19 ∨ n = 6 ∨ n = 11 ∨ n = 25 ∨ n = 2 ∨ n = 13 ∨ n = 22) :
    Calls Try.prog 71 #[.int .u32 x, .int .i64 n] w fun e w' => e = .returned (.int .u32 (Sha.rotr x n.toNat : Nat)) ∧ Ext w w' :=
  (right_any x n w hx hn).mono fun _ _ ⟨h, k⟩ => ⟨h, k ▸ Ext.refl _⟩
theorem u32w (z : Int) : IntKind.u32.wrap z = z % 4294967296 := rfl
theorem rnd_cells {a b c d e f g h kt wt : Nat} {x y : Int} (hx : x = (((d + Sha.T1 ⟨a, b, c, d, e, f, g, h⟩ kt wt) % 4294967296 : Nat) : Int)) (hy : y = (((Sha.T1 ⟨a, b, c, d, e, f, g, h⟩ kt wt + Sha.T2 ⟨a, b, c, d, e, f, g, h⟩) % 4294967296 : Nat) : Int)) :
    ((nums .u32 [a, a, b, c, d, e, f, g]).setIfInBounds 4 (.int .u32 x)).setIfInBounds 0 (.int .u32 y) = nums .u32 (Sha.rnd ⟨a, b, c, d, e, f, g, h⟩ kt wt).list := by subst hx; subst hy; rfl
theorem front_get (l : List Nat) (xt : Array Value) {k : Nat} (h : k < l.length) : (nums .u32 l ++ xt)[0 + k]? = some (.int .u32 (l.getD k 0 : Nat)) := by
  rw [Nat.zero_add, Array.getElem?_append_left (by rw [nums_size]; exact h)]; exact nums_get _ _ _ h
theorem front_set (l : List Nat) (xt : Array Value) {k : Nat} (h : k < l.length) (z : Nat) : (nums .u32 l ++ xt).setIfInBounds (0 + k) (.int .u32 (z : Nat)) = nums .u32 (l.set k z) ++ xt := by
  rw [Nat.zero_add, Array.setIfInBounds_append_left (by rw [nums_size]; exact h)]
  congr 1
  exact nums_set _ _ _ _
theorem s8_len (s : Sha.S8) : s.list.length = 8 := rfl
theorem step_list (s : Sha.S8) (xs : List UInt8) : (Sha.step s xs).list = Sha.mixl s.list (Sha.rounds (Sha.words xs) s 64).list 8 := by unfold Sha.step; exact Sha.add_list _ _
theorem stepW_any (A : Option Addr) (c : Nat) (xs : List UInt8) (g : Nat) (s : Sha.S8) (xt : Array Value) (ty : TypeId) (w : World) (ha : Bs w A 64 xs) (hs : s.ok) (hg : Blk w g ty (nums .u32 s.list ++ xt)) :
    Calls Try.prog 43 #[.pointer (some ⟨g, 0, none⟩), .slice A 64 c] w fun e w' => e = .returned (.tuple #[]) ∧ Blk w' g ty (nums .u32 (Sha.step s xs).list ++ xt) ∧ w.grownBy w' (some g) := by
  have E := Ext.refl w
  have G0 := hg; have hgl := hg.lt
  refine vc_enter0 108 Try.func43 rfl rfl rfl rfl ?_
  intro Q hret
  refine wc_seq ?_; intro K1 hK1
  refine wc_region ?_
  refine wl_y (y_move rfl) rfl ?_
  refine wl_call Try.func69 rfl rfl rfl (words_any A c xs _ ha) rfl ?_
  rintro e w1 ⟨rfl, ex⟩
  refine ⟨_, rfl, ?_⟩
  replace E := E.ext ex
  replace ha := ha.ext ex
  skip
  refine wl_call Try.func70 rfl rfl rfl (const_any _) rfl ?_
  rintro e w2 ⟨rfl, ex⟩
  refine ⟨_, rfl, ?_⟩
  replace E := E.ext ex
  replace ha := ha.ext ex
  skip
  have hs2 := E.size
  refine wl_ef (ef_alloc (Z := nums .u32 (zrs 64)) (by kernel_rfl)) rfl ?_
  rintro _ w3 ⟨g4, rfl, B4, hg4, ex⟩
  replace E := E.ext ex
  replace ha := ha.ext ex
  have hw4 := Nat.le_trans hs2 hg4
  have hs3 := E.size; have hl4 := B4.lt
  refine wl_ef (ef_alloc (Z := nums .u32 (zrs 64)) (by kernel_rfl)) rfl ?_
  rintro _ w4 ⟨g5, rfl, B5, hg5, ex⟩
  replace E := E.ext ex
  replace ha := ha.ext ex
  replace B4 := B4.ext ex
  skip
  refine wl_ef (ef_storeW rfl rfl (by rw [nums_size, Sha.words_length]; kernel_rfl) B4 (by rw [nums_size, nums_size, Sha.words_length]; rfl) (nums_one _ _)) rfl ?_
  rintro _ w5 ⟨rfl, D4, cg⟩
  replace E := E.chg cg (by omega); replace B5 := B5.chg cg (by omega)
  refine wl_ef (ef_storeW rfl rfl (by kernel_rfl) B5 rfl (nums_one _ _)) rfl ?_
  rintro _ w6 ⟨rfl, D5, cg⟩
  replace E := E.chg cg (by omega); replace D4 := D4.chg cg (by omega)
  refine wl_nil ?_
  refine wq_then_norm (hK1 ?_)
  refine wc_seq ?_; intro K2 hK2
  refine wc_region ?_
  have G := G0.ext E
  refine wl_y (y_move rfl) rfl ?_
  refine wl_y (y_nilp rfl) rfl ?_
  refine wl_y (y_loadp rfl Try.underlying67 rfl (by kernel_rfl) (fun j v hv => by rw [Addr.add_plain]; exact G.get (front j v hv))) rfl ?_
  have hs6 := E.size; have hl5 := D5.lt
  refine wl_ef (ef_alloc (Z := nums .u32 (zrs 8)) (by kernel_rfl)) rfl ?_
  rintro _ w7 ⟨g6, rfl, B6, hg6, ex⟩
  replace E := E.ext ex
  replace D4 := D4.ext ex
  replace D5 := D5.ext ex
  skip
  refine wl_ef (ef_storeW rfl rfl (by kernel_rfl) B6 rfl (nums_one _ _)) rfl ?_
  rintro _ w8 ⟨rfl, D6, cg⟩
  replace E := E.chg cg (by omega); replace D4 := D4.chg cg (by omega); replace D5 := D5.chg cg (by omega)
  refine wl_nil ?_
  refine wq_then_norm (hK2 ?_)
  refine wc_seq ?_; intro K3 hK3
  refine wc_seq ?_; intro K4 hK4
  refine wc_region ?_
  refine wl_y (y_move rfl) rfl ?_
  refine wl_nil ?_
  refine wq_then_norm (hK4 ?_)
  refine wc_block ?_
  refine wc_loop (fun n' L wr => ∃ t : Nat, L = [(0, .pointer (some ⟨g, 0, none⟩)), (4, .pointer (some ⟨g4, 0, none⟩)), (5, .pointer (some ⟨g5, 0, none⟩)), (6, .pointer (some ⟨g6, 0, none⟩)), (19, .int .i64 (t : Int))] ∧ n' = 64 - t ∧ (t ≤ 64 ∧ Ext w wr ∧ Blk wr g4 94 (nums .u32 (Sha.words xs)) ∧ Blk wr g5 94 (nums .u32 Sha.K) ∧ Blk wr g6 67 (nums .u32 (Sha.rounds (Sha.words xs) s t).list))) _ _ ⟨0, rfl, rfl, by omega, E, D4, D5, D6⟩ ⟨rfl, rfl, rfl, rfl, (by first | rfl | exact congrArg some (int_val (by omega))), trivial⟩ ?_
  rintro KL1 n' L wr ⟨t, rfl, rfl, ht, E, D4, D5, D6⟩ hL1
  refine wc_seq ?_; intro K5 hK5
  refine wc_region ?_
  refine wl_y (y_lss rfl rfl) rfl ?_
  refine wl_nil ?_
  refine wq_then_norm (hK5 ?_)
  refine wc_seq ?_; intro K6 hK6
  refine wc_dec rfl (fun hc1 => ?_) (fun hc1 => ?_)
  · skip
    refine wc_skip ?_
    refine wq_then_norm (hK6 ?_)
    refine wc_seq ?_; intro K7 hK7
    refine wc_block ?_
    refine wc_seq ?_; intro K8 hK8
    obtain ⟨R, hR⟩ : ∃ R, R = Sha.rounds (Sha.words xs) s t := ⟨_, rfl⟩
    have hok : R.ok := by rw [hR]; exact Sha.rounds_ok _ hs _
    rw [← hR] at D6
    obtain ⟨a, b, cc, d, e, f, gg, hh⟩ := R
    obtain ⟨la, lb, lc, ld, le, lf, lg, lh⟩ := hok
    refine wc_region ?_
    refine wl_y (y_move rfl) rfl ?_
    refine wl_y (y_assign rfl) rfl ?_
    refine wl_nil ?_
    refine wq_then_norm (hK8 ?_)
    refine wc_seq ?_; intro K9 hK9
    refine wc_draw (by kernel_rfl) 6 rfl ?_; intro wd5 ex hd5
    replace E := E.ext ex
    replace D4 := D4.ext ex
    replace D5 := D5.ext ex
    replace D6 := D6.ext ex
    refine wm_y 0 rfl (by kernel_rfl) (y_ixa1 rfl rfl Try.underlying67 (by kernel_rfl) (j := 0) rfl (by omega)) rfl ?_
    refine wm_y 1 rfl (by kernel_rfl) (y_load1 rfl Try.underlying66 rfl (D6.get (i := 0) rfl)) rfl ?_
    refine wm_y 2 rfl (by kernel_rfl) (y_ixa1 rfl rfl Try.underlying67 (by kernel_rfl) (j := 4) rfl (by omega)) rfl ?_
    refine wm_y 3 rfl (by kernel_rfl) (y_load1 rfl Try.underlying66 rfl (D6.get (i := 4) rfl)) rfl ?_
    refine wm_y 4 rfl (by kernel_rfl) (y_assign rfl) rfl ?_
    refine wm_y 5 rfl (by kernel_rfl) (y_assign rfl) rfl ?_
    refine wm_done (by kernel_rfl) ?_
    refine wq_nop ?_
    refine wq_then_norm (hK9 ?_)
    refine wc_seq ?_; intro K10 hK10
    obtain ⟨kt, hkt⟩ : ∃ q, q = Sha.K.getD t 0 := ⟨_, rfl⟩
    obtain ⟨wt, hwt⟩ : ∃ q, q = (Sha.words xs).getD t 0 := ⟨_, rfl⟩
    obtain ⟨T, hT⟩ : ∃ T, T = Sha.T1 ⟨a, b, cc, d, e, f, gg, hh⟩ kt wt := ⟨_, rfl⟩
    obtain ⟨U, hU⟩ : ∃ T, T = Sha.T2 ⟨a, b, cc, d, e, f, gg, hh⟩ := ⟨_, rfl⟩
    refine wc_draw (by kernel_rfl) 31 rfl ?_; intro wd6 ex hd6
    replace E := E.ext ex
    replace D4 := D4.ext ex
    replace D5 := D5.ext ex
    replace D6 := D6.ext ex
    refine wm_y 0 rfl (by kernel_rfl) (y_ixa1 rfl rfl Try.underlying67 (by kernel_rfl) (j := 7) rfl (by omega)) rfl ?_
    refine wm_y 1 rfl (by kernel_rfl) (y_load1 rfl Try.underlying66 rfl (D6.get (i := 7) rfl)) rfl ?_
    refine wm_y 2 rfl (by kernel_rfl) (y_move rfl) rfl ?_
    refine wm_y 4 rfl (by kernel_rfl) (y_move rfl) rfl ?_
    refine wm_y 7 rfl (by kernel_rfl) (y_move rfl) rfl ?_
    refine wm_y 11 rfl (by kernel_rfl) (y_move rfl) rfl ?_
    refine wm_y 12 rfl (by kernel_rfl) (y_ixa1 rfl rfl Try.underlying67 (by kernel_rfl) (j := 5) rfl (by omega)) rfl ?_
    refine wm_y 13 rfl (by kernel_rfl) (y_load1 rfl Try.underlying66 rfl (D6.get (i := 5) rfl)) rfl ?_
    refine wm_y 14 rfl (by kernel_rfl) (y_and rfl rfl rfl) rfl ?_
    refine wm_y 15 rfl (by kernel_rfl) (y_move rfl) rfl ?_
    refine wm_y 16 rfl (by kernel_rfl) (y_xorNot rfl rfl rfl) rfl ?_
    refine wm_y 17 rfl (by kernel_rfl) (y_ixa1 rfl rfl Try.underlying67 (by kernel_rfl) (j := 6) rfl (by omega)) rfl ?_
    refine wm_y 18 rfl (by kernel_rfl) (y_load1 rfl Try.underlying66 rfl (D6.get (i := 6) rfl)) rfl ?_
    refine wm_y 19 rfl (by kernel_rfl) (y_and rfl rfl rfl) rfl ?_
    refine wm_y 20 rfl (by kernel_rfl) (y_xor rfl rfl (ch_bits e f gg le lf lg)) rfl ?_
    refine wm_y 22 rfl (by kernel_rfl) (y_move rfl) rfl ?_
    refine wm_y 23 rfl (by kernel_rfl) (y_ixa1 rfl rfl Try.underlying94 (by kernel_rfl) rfl (by omega)) rfl ?_
    refine wm_y 24 rfl (by kernel_rfl) (y_load1 rfl Try.underlying66 rfl (by rw [Nat.zero_add]; exact D5.get (i := t) (show _ = some (.int .u32 (kt : Nat)) from by rw [hkt]; exact nums_get _ _ _ (by show t < 64; omega)))) rfl ?_
    refine wm_y 26 rfl (by kernel_rfl) (y_move rfl) rfl ?_
    refine wm_y 27 rfl (by kernel_rfl) (y_ixa1 rfl rfl Try.underlying94 (by kernel_rfl) rfl (by omega)) rfl ?_
    refine wm_y 28 rfl (by kernel_rfl) (y_load1 rfl Try.underlying66 rfl (by rw [Nat.zero_add]; exact D4.get (i := t) (show _ = some (.int .u32 (wt : Nat)) from by rw [hwt]; exact nums_get _ _ _ (by rw [Sha.words_length]; omega)))) rfl ?_
    refine wm_one 3 (by kernel_rfl) ?_; refine om_call rfl Try.func71 rfl rfl rfl (rightE_any e 6 _ le (by omega)) rfl ?_
    rintro e w9 ⟨rfl, ex⟩
    refine ⟨_, rfl, .inr ex, ?_⟩
    replace E := E.ext ex
    replace D4 := D4.ext ex
    replace D5 := D5.ext ex
    replace D6 := D6.ext ex
    skip
    refine wm_one 5 (by kernel_rfl) ?_; refine om_call rfl Try.func71 rfl rfl rfl (rightE_any e 11 _ le (by omega)) rfl ?_
    rintro e w9 ⟨rfl, ex⟩
    refine ⟨_, rfl, .inr ex, ?_⟩
    replace E := E.ext ex
    replace D4 := D4.ext ex
    replace D5 := D5.ext ex
    replace D6 := D6.ext ex
    skip
    refine wm_y 6 rfl (by kernel_rfl) (y_xor rfl rfl rfl) rfl ?_
    refine wm_one 8 (by kernel_rfl) ?_; refine om_call rfl Try.func71 rfl rfl rfl (rightE_any e 25 _ le (by omega)) rfl ?_
    rintro e w9 ⟨rfl, ex⟩
    refine ⟨_, rfl, .inr ex, ?_⟩
    replace E := E.ext ex
    replace D4 := D4.ext ex
    replace D5 := D5.ext ex
    replace D6 := D6.ext ex
    skip
    refine wm_y 9 rfl (by kernel_rfl) (y_xor rfl rfl (xor3 _ _ _ (Sha.rotr_lt le (by omega)) (Sha.rotr_lt le (by omega)) (Sha.rotr_lt le (by omega)))) rfl ?_
    refine wm_y 10 rfl (by kernel_rfl) (y_add rfl rfl rfl) rfl ?_
    refine wm_y 21 rfl (by kernel_rfl) (y_add rfl rfl rfl) rfl ?_
    refine wm_y 25 rfl (by kernel_rfl) (y_add rfl rfl rfl) rfl ?_
    refine wm_y 29 rfl (by kernel_rfl) (Y.as (y_add rfl rfl rfl) (congrArg (Value.int .u32) (show _ = ((T % 4294967296 : Nat) : Int) from by rw [u32w, u32w, u32w, u32w, hT]; simp only [Sha.T1, Sha.S1, show (6 : Int).toNat = 6 from rfl, show (11 : Int).toNat = 11 from rfl, show (25 : Int).toNat = 25 from rfl]; omega))) rfl ?_
    refine wm_y 30 rfl (by kernel_rfl) (y_assign rfl) rfl ?_
    refine wm_done (by kernel_rfl) ?_
    refine wq_nop ?_
    refine wq_then_norm (hK10 ?_)
    refine wc_seq ?_; intro K11 hK11
    refine wc_draw (by kernel_rfl) 25 rfl ?_; intro wd7 ex hd7
    replace E := E.ext ex
    replace D4 := D4.ext ex
    replace D5 := D5.ext ex
    replace D6 := D6.ext ex
    refine wm_y 0 rfl (by kernel_rfl) (y_move rfl) rfl ?_
    refine wm_y 2 rfl (by kernel_rfl) (y_move rfl) rfl ?_
    refine wm_y 5 rfl (by kernel_rfl) (y_move rfl) rfl ?_
    refine wm_y 8 rfl (by kernel_rfl) (y_move rfl) rfl ?_
    refine wm_y 9 rfl (by kernel_rfl) (y_ixa1 rfl rfl Try.underlying67 (by kernel_rfl) (j := 1) rfl (by omega)) rfl ?_
    refine wm_y 10 rfl (by kernel_rfl) (y_load1 rfl Try.underlying66 rfl (D6.get (i := 1) rfl)) rfl ?_
    refine wm_y 11 rfl (by kernel_rfl) (y_and rfl rfl rfl) rfl ?_
    refine wm_y 12 rfl (by kernel_rfl) (y_move rfl) rfl ?_
    refine wm_y 13 rfl (by kernel_rfl) (y_ixa1 rfl rfl Try.underlying67 (by kernel_rfl) (j := 2) rfl (by omega)) rfl ?_
    refine wm_y 14 rfl (by kernel_rfl) (y_load1 rfl Try.underlying66 rfl (D6.get (i := 2) rfl)) rfl ?_
    refine wm_y 15 rfl (by kernel_rfl) (y_and rfl rfl rfl) rfl ?_
    refine wm_y 16 rfl (by kernel_rfl) (y_xor rfl rfl rfl) rfl ?_
    refine wm_y 17 rfl (by kernel_rfl) (y_ixa1 rfl rfl Try.underlying67 (by kernel_rfl) (j := 1) rfl (by omega)) rfl ?_
    refine wm_y 18 rfl (by kernel_rfl) (y_load1 rfl Try.underlying66 rfl (D6.get (i := 1) rfl)) rfl ?_
    refine wm_y 19 rfl (by kernel_rfl) (y_ixa1 rfl rfl Try.underlying67 (by kernel_rfl) (j := 2) rfl (by omega)) rfl ?_
    refine wm_y 20 rfl (by kernel_rfl) (y_load1 rfl Try.underlying66 rfl (D6.get (i := 2) rfl)) rfl ?_
    refine wm_y 21 rfl (by kernel_rfl) (y_and rfl rfl rfl) rfl ?_
    refine wm_y 22 rfl (by kernel_rfl) (y_xor rfl rfl (maj_bits a b cc la lb lc)) rfl ?_
    refine wm_one 1 (by kernel_rfl) ?_; refine om_call rfl Try.func71 rfl rfl rfl (rightE_any a 2 _ la (by omega)) rfl ?_
    rintro e w9 ⟨rfl, ex⟩
    refine ⟨_, rfl, .inr ex, ?_⟩
    replace E := E.ext ex
    replace D4 := D4.ext ex
    replace D5 := D5.ext ex
    replace D6 := D6.ext ex
    skip
    refine wm_one 3 (by kernel_rfl) ?_; refine om_call rfl Try.func71 rfl rfl rfl (rightE_any a 13 _ la (by omega)) rfl ?_
    rintro e w9 ⟨rfl, ex⟩
    refine ⟨_, rfl, .inr ex, ?_⟩
    replace E := E.ext ex
    replace D4 := D4.ext ex
    replace D5 := D5.ext ex
    replace D6 := D6.ext ex
    skip
    refine wm_y 4 rfl (by kernel_rfl) (y_xor rfl rfl rfl) rfl ?_
    refine wm_one 6 (by kernel_rfl) ?_; refine om_call rfl Try.func71 rfl rfl rfl (rightE_any a 22 _ la (by omega)) rfl ?_
    rintro e w9 ⟨rfl, ex⟩
    refine ⟨_, rfl, .inr ex, ?_⟩
    replace E := E.ext ex
    replace D4 := D4.ext ex
    replace D5 := D5.ext ex
    replace D6 := D6.ext ex
    skip
    refine wm_y 7 rfl (by kernel_rfl) (y_xor rfl rfl (xor3 _ _ _ (Sha.rotr_lt la (by omega)) (Sha.rotr_lt la (by omega)) (Sha.rotr_lt la (by omega)))) rfl ?_
    refine wm_y 23 rfl (by kernel_rfl) (Y.as (y_add rfl rfl rfl) (congrArg (Value.int .u32) (show _ = ((U % 4294967296 : Nat) : Int) from by rw [u32w, hU]; simp only [Sha.T2, Sha.S0, show (2 : Int).toNat = 2 from rfl, show (13 : Int).toNat = 13 from rfl, show (22 : Int).toNat = 22 from rfl]; omega))) rfl ?_
    refine wm_y 24 rfl (by kernel_rfl) (y_assign rfl) rfl ?_
    refine wm_done (by kernel_rfl) ?_
    refine wq_nop ?_
    refine wq_then_norm (hK11 ?_)
    refine wc_seq ?_; intro K12 hK12
    refine wc_draw (by kernel_rfl) 3 rfl ?_; intro wd8 ex hd8
    replace E := E.ext ex
    replace D4 := D4.ext ex
    replace D5 := D5.ext ex
    replace D6 := D6.ext ex
    refine wm_z 0 rfl (by kernel_rfl) (fun _ => y_cutarrl (s := 1) rfl rfl Try.underlying67 (by kernel_rfl) (j := 1) rfl (by omega)) rfl ?_
    refine wm_z 1 rfl (by kernel_rfl) (fun _ => y_cutarrh (s := 1) rfl rfl Try.underlying67 (by kernel_rfl) (j := 7) rfl (by omega)) rfl ?_
    refine wm_one 2 (by kernel_rfl) ?_; refine om_ef rfl (ef_copy rfl rfl Try.underlying98 sz32 D6 (D6.at 0 _ (nums_pre .u32 [a, b, cc, d, e, f, gg] [hh])) rfl (Nat.le_refl 8) iv_one) rfl ?_
    rintro _ w10 ⟨rfl, F6, cg⟩
    refine ⟨.inl rfl, ?_⟩
    replace E := E.chg cg (by omega); replace D4 := D4.chg cg (by omega); replace D5 := D5.chg cg (by omega)
    refine wm_done (by kernel_rfl) ?_
    refine wq_nop ?_
    refine wq_then_norm (hK12 ?_)
    refine wc_seq ?_; intro K13 hK13
    refine wc_region ?_
    refine wl_y (y_ixa1 rfl rfl Try.underlying67 (by kernel_rfl) (j := 4) rfl (by omega)) rfl ?_
    refine wl_y (y_load1 rfl Try.underlying66 rfl (F6.get (i := 4) rfl)) rfl ?_
    refine wl_y (y_move rfl) rfl ?_
    refine wl_y (y_add rfl rfl rfl) rfl ?_
    refine wl_y (y_ixa1 rfl rfl Try.underlying67 (by kernel_rfl) (j := 4) rfl (by omega)) rfl ?_
    refine wl_ef (ef_storeB rfl rfl rfl (by kernel_rfl) F6 (by show 4 < 8; omega)) rfl ?_
    rintro _ w11 ⟨rfl, H6, cg⟩
    replace E := E.chg cg (by omega); replace D4 := D4.chg cg (by omega); replace D5 := D5.chg cg (by omega)
    refine wl_nil ?_
    refine wq_then_norm (hK13 ?_)
    refine wc_region ?_
    refine wl_y (y_move rfl) rfl ?_
    refine wl_y (y_move rfl) rfl ?_
    refine wl_y (y_add rfl rfl rfl) rfl ?_
    refine wl_y (y_ixa1 rfl rfl Try.underlying67 (by kernel_rfl) (j := 0) rfl (by omega)) rfl ?_
    refine wl_ef (ef_storeB rfl rfl rfl (by kernel_rfl) H6 (by show 0 < 8; omega)) rfl ?_
    rintro _ w12 ⟨rfl, I6, cg⟩
    replace E := E.chg cg (by omega); replace D4 := D4.chg cg (by omega); replace D5 := D5.chg cg (by omega)
    refine wl_nil ?_
    refine wq_blk_norm ?_
    refine wq_then_norm (hK7 ?_)
    refine wc_region ?_
    refine wl_y (y_add rfl rfl (i64_ok (by omega) (by omega))) rfl ?_
    refine wl_y (y_move rfl) rfl ?_
    refine wl_nil ?_
    refine wq_then_norm ?_
    have e1 : Sha.rounds (Sha.words xs) s (t + 1) = Sha.rnd ⟨a, b, cc, d, e, f, gg, hh⟩ kt wt := by rw [hkt, hwt]; show Sha.rnd (Sha.rounds (Sha.words xs) s t) _ _ = _; rw [← hR]
    have I7 : Blk w12 g6 67 (nums .u32 (Sha.rounds (Sha.words xs) s (t + 1)).list) := by
      rw [e1]; exact I6.congr (rnd_cells (by rw [u32w, ← hT]; omega) (by rw [u32w, ← hT, ← hU]; omega))
    refine hL1 _ _ ⟨t + 1, rfl, rfl, by omega, E, D4, D5, I7⟩ (by omega) ⟨rfl, rfl, rfl, rfl, (by first | rfl | exact congrArg some (int_val (by omega))), trivial⟩
  · skip
    refine wc_exit ?_
    refine wq_then_exit ?_
    refine wq_then_exit ?_
    refine wq_blk_hit ?_
    refine wq_then_norm (hK3 ?_)
    refine wc_seq ?_; intro K14 hK14
    obtain rfl : t = 64 := by omega
    obtain ⟨m, hm⟩ : ∃ m, m = (Sha.rounds (Sha.words xs) s 64).list := ⟨_, rfl⟩
    have h8m : s.list.length = m.length := by rw [hm, s8_len, s8_len]
    have h8l := s8_len s
    have okm : ∀ i, m.getD i 0 < 4294967296 := by rw [hm]; exact s8_lt (Sha.rounds_ok _ hs _)
    have okl := s8_lt hs
    have hfin : (Sha.step s xs).list = Sha.mixl s.list m 8 := by rw [hm]; exact step_list s xs
    have hsz6 := E.size; have hgw := hgl
    rw [← hm] at D6
    obtain ⟨l, hl⟩ : ∃ l, l = s.list := ⟨_, rfl⟩
    rw [← hl] at G0 okl h8l h8m hfin
    refine wc_region ?_
    refine wl_y (y_move rfl) rfl ?_
    refine wl_nil ?_
    refine wq_then_norm (hK14 ?_)
    refine wc_block ?_
    refine wc_loop (fun n' L wx => ∃ k : Nat, L = [(0, .pointer (some ⟨g, 0, none⟩)), (6, .pointer (some ⟨g6, 0, none⟩)), (93, .int .i64 (k : Int))] ∧ n' = 8 - k ∧ (k ≤ 8 ∧ w.grownBy wx (some g) ∧ Blk wx g ty (nums .u32 (Sha.mixl l m k) ++ xt) ∧ Blk wx g6 67 (nums .u32 m))) _ _ ⟨0, rfl, rfl, by omega, Chg.ofExt E g, (by rw [Sha.mixl_zero]; exact G0.ext E), D6⟩ ⟨rfl, rfl, (by first | rfl | exact congrArg some (int_val (by omega))), trivial⟩ ?_
    rintro KL2 n' L wx ⟨k, rfl, rfl, hk, CG, H, D6⟩ hL2
    refine wc_seq ?_; intro K15 hK15
    refine wc_region ?_
    refine wl_y (y_lss rfl rfl) rfl ?_
    refine wl_nil ?_
    refine wq_then_norm (hK15 ?_)
    refine wc_seq ?_; intro K16 hK16
    refine wc_dec rfl (fun hc2 => ?_) (fun hc2 => ?_)
    · skip
      refine wc_skip ?_
      refine wq_then_norm (hK16 ?_)
      refine wc_seq ?_; intro K17 hK17
      refine wc_block ?_
      refine wc_seq ?_; intro K18 hK18
      refine wc_region ?_
      refine wl_y (y_move rfl) rfl ?_
      refine wl_y (y_assign rfl) rfl ?_
      refine wl_nil ?_
      refine wq_then_norm (hK18 ?_)
      obtain ⟨p, hp⟩ : ∃ p, p = l.getD k 0 := ⟨_, rfl⟩
      obtain ⟨q, hq⟩ : ∃ q, q = m.getD k 0 := ⟨_, rfl⟩
      have lp : p < 4294967296 := by rw [hp]; exact okl _
      have lq : q < 4294967296 := by rw [hq]; exact okm _
      have hkl : k < l.length := by omega
      have hml := Sha.mixl_length h8m (k := k) (by omega)
      have x1 : (nums .u32 (Sha.mixl l m k) ++ xt)[0 + k]? = some (.int .u32 (p : Nat)) := by rw [front_get _ _ (by omega), Sha.mixl_get h8m hkl, hp]
      have x2 : (nums .u32 m)[0 + k]? = some (.int .u32 (q : Nat)) := by rw [Nat.zero_add, hq]; exact nums_get _ _ _ (by omega)
      refine wc_draw (by kernel_rfl) 12 rfl ?_; intro wd15 ex hd15
      replace H := H.ext ex; replace D6 := D6.ext ex; replace CG := Chg.tr CG (Chg.ofExt ex g)
      refine wm_z 0 rfl (by kernel_rfl) (fun _ => y_move rfl) rfl ?_
      refine wm_z 1 rfl (by kernel_rfl) (fun _ => y_move rfl) rfl ?_
      refine wm_z 2 rfl (by kernel_rfl) (fun _ => y_nilp rfl) rfl ?_
      refine wm_z 3 rfl (by kernel_rfl) (fun _ => y_ixa1 rfl rfl Try.underlying67 (by kernel_rfl) rfl (by omega)) rfl ?_
      refine wm_y 4 rfl (by kernel_rfl) (y_load1 rfl Try.underlying66 rfl (H.get x1)) rfl ?_
      refine wm_z 5 rfl (by kernel_rfl) (fun _ => y_move rfl) rfl ?_
      refine wm_z 6 rfl (by kernel_rfl) (fun _ => y_ixa1 rfl rfl Try.underlying67 (by kernel_rfl) rfl (by omega)) rfl ?_
      refine wm_y 7 rfl (by kernel_rfl) (y_load1 rfl Try.underlying66 rfl (D6.get x2)) rfl ?_
      refine wm_z 8 rfl (by kernel_rfl) (fun _ => Y.as (y_add rfl rfl rfl) (congrArg (Value.int .u32) (show _ = (((p + q) % 4294967296 : Nat) : Int) from by rw [u32w]; omega))) rfl ?_
      refine wm_z 9 rfl (by kernel_rfl) (fun _ => y_nilp rfl) rfl ?_
      refine wm_z 10 rfl (by kernel_rfl) (fun _ => y_ixa1 rfl rfl Try.underlying67 (by kernel_rfl) rfl (by omega)) rfl ?_
      refine wm_one 11 (by kernel_rfl) ?_; refine om_ef rfl (ef_storeB rfl rfl rfl (by kernel_rfl) H (Array.getElem?_eq_some_iff.1 x1).1) rfl ?_
      rintro _ w13 ⟨rfl, H2, cg⟩
      refine ⟨.inl rfl, ?_⟩
      replace D6 := D6.chg cg (by omega); replace CG := Chg.tr CG cg; rw [front_set _ _ (by omega), hp, hq, Sha.mixl_set h8m hkl] at H2
      refine wm_done (by kernel_rfl) ?_
      refine wq_nop ?_
      refine wq_blk_norm ?_
      refine wq_then_norm (hK17 ?_)
      refine wc_region ?_
      refine wl_y (y_add rfl rfl (i64_ok (by omega) (by omega))) rfl ?_
      refine wl_y (y_move rfl) rfl ?_
      refine wl_nil ?_
      refine wq_then_norm ?_
      refine hL2 _ _ ⟨k + 1, rfl, rfl, by omega, CG, H2, D6⟩ (by omega) ⟨rfl, rfl, (by first | rfl | exact congrArg some (int_val (by omega))), trivial⟩
    · skip
      refine wc_exit ?_
      refine wq_then_exit ?_
      refine wq_then_exit ?_
      refine wq_blk_hit ?_
      refine hret (.inr rfl) ?_
      obtain rfl : k = 8 := by omega
      exact ⟨rfl, by rw [hfin]; exact H, CG⟩
end Go.Proofs.Ytopbahbhldgbbaa
