/- The bytes of commits: what msg hands back. -/
import Derived.Test.YtpgalbgonmclaaaGreatMsJ
import Derived.Test.YtpgalbgonmclaaaGreatVk
namespace Go.Proofs.YtpgalbgonmclaaaGreat
open Go.RowKit
attribute [local irreducible] Y Ef WL WC WK WQ WM OpM WN WF OpN WG OpG
open Nd Wire
def bxdB (b : Bxd) : List UInt8 := vec b.enc ++ vec b.box
def stpB (s : Stp) : List UInt8 := vec s.box ++ vec (s.to.flatMap bxdB)
def itmB (f : Prop20 → List UInt8) (x : Item20) : List UInt8 := if 0 < x.ref.length then 2 :: vec x.ref else 1 :: f x.prop
def comB (f : Prop20 → List UInt8) (c : Com20) : List UInt8 := vec (c.items.flatMap (itmB f)) ++ (if c.has then 1 :: (leafB c.way.leaf ++ vec (c.way.steps.flatMap stpB)) else [0])
theorem flatMap_le {α : Type} {f : α → List UInt8} {B : Nat} : ∀ {l : List α}, (∀ x ∈ l, (f x).length ≤ B) → (l.flatMap f).length ≤ l.length * B
  | [], _ => by simp
  | x :: l, h => by
    have h1 := h x List.mem_cons_self
    have h2 := flatMap_le (l := l) fun y hy => h y (List.mem_cons_of_mem _ hy)
    rw [List.flatMap_cons, List.length_append, List.length_cons, Nat.add_mul, Nat.one_mul]
    omega
theorem flatMap_take {α : Type} {f : α → List UInt8} {xs : List α} {i : Nat} {x : α} (h : xs[i]? = some x) : (xs.take (i + 1)).flatMap f = (xs.take i).flatMap f ++ f x := by
  rw [take_snoc h, List.flatMap_append]; simp
theorem flatMap_full {α : Type} {f : α → List UInt8} {xs : List α} {i : Nat} (h : xs.length ≤ i) : (xs.take i).flatMap f = xs.flatMap f := by rw [List.take_of_length_le h]
theorem flatMap_tk_le {α : Type} {f : α → List UInt8} {B : Nat} {xs : List α} (i : Nat) (h : ∀ x ∈ xs, (f x).length ≤ B) : ((xs.take i).flatMap f).length ≤ i * B := by
  have h1 := flatMap_le (l := xs.take i) fun x hx => h x (List.mem_of_mem_take hx)
  have h2 : (xs.take i).length * B ≤ i * B := Nat.mul_le_mul_right _ (by rw [List.length_take]; omega)
  omega
theorem leafB_ok {l : Leaf} (h : okLeaf l) : (leafB l).length ≤ 300 := by
  obtain ⟨f0, f1, f5, _, f2, _, _, f4⟩ := h
  have h0 := vec_le l.box; have h1 := vec_le l.sign; have h2 := vec_le l.ident; have h4 := vec_le l.parent; have h5 := vec_le l.sig
  unfold leafB leafU
  simp only [List.length_append, List.length_singleton]
  split
  · omega
  · simp only [List.length_nil]; omega
theorem propB_ok {q : Prop20} (h : okProp q) : (propB q).length ≤ 500 := by
  have h4 : (be 4 q.at_.toNat).length = 4 := be_length 4 _
  unfold propB
  rw [List.length_cons]
  rcases h with h | h | h
  · rw [if_pos h.1]
    have h1 := leafB_ok h.2.1.2.1.1
    have h2 := vec_le q.pack.init; have h3 := vec_le q.pack.sig
    have h5 := h.2.1.1; have h6 := h.2.1.2.2
    unfold packB packT
    simp only [List.length_append, List.length_cons, List.length_nil]
    omega
  · rw [if_neg (by omega), if_pos h.1]
    have h1 := leafB_ok h.2.2.1.1
    omega
  · rw [if_neg (by omega), if_neg (by omega)]
    omega
theorem itmB_ok {x : Item20} (h : okItem x) : (itmB propB x).length ≤ 501 := by
  have h2 := vec_le x.ref
  unfold itmB
  rcases h with h | h
  · rw [if_pos (by omega), List.length_cons]; omega
  · rw [if_neg (by omega), List.length_cons]; have := propB_ok h.2; omega
theorem bxdB_ok {b : Bxd} (h : okBxd b) : (bxdB b).length ≤ 90 := by
  have h2 := vec_le b.enc; have h3 := vec_le b.box; have := h.1; have := h.2
  unfold bxdB
  rw [List.length_append]; omega
theorem stpB_ok {s : Stp} (h : okStp s) (hf : s.Fit) : (stpB s).length ≤ 900100 := by
  have h2 := vec_le s.box; have h3 := vec_le (s.to.flatMap bxdB); have := h.1
  have h4 := flatMap_le (l := s.to) (f := bxdB) (B := 90) fun b hb => bxdB_ok (h.2 b hb)
  have h5 : s.to.length * 90 ≤ 10000 * 90 := Nat.mul_le_mul_right _ hf.2.1
  unfold stpB
  rw [List.length_append]; omega
section
variable {cs : Array Value} {c : Com20} {g : Nat} {t : TypeId}
set_option maxHeartbeats 1000000 in
theorem commit_any (w : World) (H : ComAt w cs c) (hf : c.Fit) (ok : okCom c) :
    Calls Tryz.prog 65 #[.agg cs] w fun e w' => ∃ A' k c', e = .returned (.slice A' k c') ∧ Row w' w.heap.size 5 A' k c' ((comB propB c).map bv) ∧ Ext w w' := by
  obtain ⟨it, h0, h1, h2, q, h4, h5, t, rfl, a1, HW⟩ := H
  have HL := HW.parts
  have l2 := a1.1; have l3 := hf.1; have l4 := HL.2.1
  obtain ⟨ok1, ok2, ok3⟩ := ok
  have E := Ext.refl w
  refine vc_enter1 86 Tryz.func65 rfl rfl rfl rfl ?_
  intro Q hret
  refine wc_seq ?_; intro K1 hK1
  refine wc_region ?_
  refine wl_ef (ef_box rfl rfl) rfl ?_
  rintro _ wB1 ⟨gB1, rfl, B1, hgB1, ex⟩
  have lB1 := B1.lt; have zB1 := ex.size
  replace E := E.ext ex
  refine wl_y (y_assign rfl) rfl ?_
  refine wl_nil ?_
  refine wq_then_norm (hK1 ?_)
  refine wc_seq ?_; intro K2 hK2
  refine wc_region ?_
  refine wl_y (y_assign rfl) rfl ?_
  refine wl_y (y_assign rfl) rfl ?_
  refine wl_nil ?_
  refine wq_then_norm (hK2 ?_)
  refine wc_seq ?_; intro K3 hK3
  refine wc_seq ?_; intro K4 hK4
  have X := Ext.refl wB1
  have R0 : Row wB1 wB1.heap.size 5 none 0 0 (([] : List UInt8).map bv) := Row.empty _ _ _
  refine wc_region ?_
  refine wl_y (y_fieldAddr (o := 0) (s := 1) (off := 0) (o' := 0) rfl Tryz.underlying40 rfl (by kernel_rfl) rfl rfl) rfl ?_
  refine wl_y (y_load1 rfl Tryz.underlying35 rfl (B1.get (i := 0) rfl)) rfl ?_
  refine wl_y (y_len_slice rfl Tryz.underlying35) rfl ?_
  refine wl_y (y_move rfl) rfl ?_
  refine wl_nil ?_
  refine wq_then_norm (hK4 ?_)
  refine wc_block ?_
  refine wc_loop (fun n' L wr => ∃ (i : Nat) (A : Option Addr) (n k : Nat) (xs : List UInt8), L = [(1, .pointer (some ⟨gB1, 0, none⟩)), (3, .slice A n k), (4, .slice none 0 0), (14, .slice it.A it.n it.c), (15, .int .i64 (it.n : Int)), (16, .int .i64 (i : Int))] ∧ n' = it.n - i ∧ (i ≤ it.n ∧ Ext wB1 wr ∧ Row wr wB1.heap.size 5 A n k (xs.map bv) ∧ xs = (c.items.take i).flatMap (itmB propB))) _ _ ⟨0, none, 0, 0, [], rfl, rfl, by omega, X, R0, by simp⟩ ⟨rfl, rfl, rfl, rfl, (by first | rfl | exact congrArg some (int_val (by omega))), (by first | rfl | exact congrArg some (int_val (by omega))), trivial⟩ ?_
  rintro KL1 n' L wr ⟨i, A, n, k, xs, rfl, rfl, hi, X, R, hxs⟩ hL1
  refine wc_seq ?_; intro K5 hK5
  refine wc_region ?_
  refine wl_y (y_lss rfl rfl) rfl ?_
  refine wl_nil ?_
  refine wq_then_norm (hK5 ?_)
  refine wc_seq ?_; intro K6 hK6
  refine wc_dec rfl (fun hc1 => ?_) (fun hc1 => ?_)
  · skip
    refine wc_skip ?_
    refine wq_then_norm (hK6 ?_)
    refine wc_seq ?_; intro K7 hK7
    refine wc_block ?_
    refine wc_seq ?_; intro K8 hK8
    obtain ⟨b1, o1, cs1, x, e1, _, hx, hcz, hR, hcx⟩ := a1.get2 (by omega) (i := i) (by omega)
    obtain ⟨r, j, k0, k1, k2, p, k4, k5, gg, m0, m1, m2, u, m4, m5, rfl, hr, HP⟩ := hR
    have l5 := hr.1
    have hfx := hf.2.1 x (ix_mem hx)
    have l6 := hfx.1
    have okx := ok2 x (ix_mem hx)
    have hxl : xs.length ≤ i * 501 := by rw [hxs]; exact flatMap_tk_le i fun x hx => itmB_ok (ok2 x hx)
    have hnx := R.bs.1
    have Rr := R
    refine wc_region ?_
    refine wl_y (y_ixsE (s := 17) (j := i) e1 rfl rfl Tryz.underlying35 (by kernel_rfl) rfl (by omega)) rfl ?_
    refine wl_y (y_loadp rfl Tryz.underlying95 rfl (by rw [hcz]; kernel_rfl) fun j v hv => by rw [Addr.add_plain]; exact (E.ext X).cellE (hcx j v hv)) rfl ?_
    refine wl_ef (ef_alloc (Z := #[.slice none 0 0, .int .u8 0, .slice none 0 0, .slice none 0 0, .slice none 0 0, .slice none 0 0, .int .u8 0, .slice none 0 0, .slice none 0 0, .slice none 0 0, .slice none 0 0, .slice none 0 0, .slice none 0 0, .int .u8 0, .slice none 0 0, .slice none 0 0, .int .i64 0]) (by kernel_rfl)) rfl ?_
    rintro _ wA6 ⟨gB6, rfl, D6, hgB6, exA⟩
    refine wl_ef (ef_storeP (o := 0) rfl rfl (by kernel_rfl) D6 (Nat.le_of_ble_eq_true rfl) (all_ones rfl)) rfl ?_
    rintro _ wB6 ⟨rfl, B6, cg⟩
    have ex := exA.chg cg hgB6; clear cg exA D6
    have lB6 := B6.lt; have zB6 := ex.size
    replace X := X.ext ex
    replace R := R.ext ex
    refine wl_nil ?_
    refine wq_then_norm (hK8 ?_)
    refine wc_seq ?_; intro K9 hK9
    refine wc_seq ?_; intro K10 hK10
    refine wc_region ?_
    have n6 := Rr.sepHi (m := n + 1) hgB6
    refine wl_y (y_fieldAddr (o := 0) (s := 1) (off := 0) (o' := 0) rfl Tryz.underlying95 rfl (by kernel_rfl) rfl rfl) rfl ?_
    refine wl_y (y_load1 rfl Tryz.underlying22 rfl (B6.get (i := 0) rfl)) rfl ?_
    refine wl_y (y_len_slice rfl Tryz.underlying22) rfl ?_
    refine wl_y (y_gtr rfl rfl) rfl ?_
    refine wl_nil ?_
    refine wq_then_norm (hK10 ?_)
    refine wc_dec rfl (fun hc2 => ?_) (fun hc2 => ?_)
    · skip
      refine wc_seq ?_; intro K11 hK11
      refine wc_drawG [gB6] (by kernel_rfl) 7 rfl ?_; intro wd6 ex hd6
      replace X := X.ext ex
      replace R := R.ext ex
      replace B6 := B6.ext ex
      refine wg_y 0 rfl (by kernel_rfl) (fun wr (kr : Kept [gB6] _ wr) => y_move rfl) rfl ?_
      refine wg_y 3 rfl (by kernel_rfl) (fun wr (kr : Kept [gB6] _ wr) => y_fieldAddr (o := 0) (s := 1) (off := 0) (o' := 0) rfl Tryz.underlying95 rfl (by kernel_rfl) rfl rfl) rfl ?_
      refine wg_y 4 rfl (by kernel_rfl) (fun wr (kr : Kept [gB6] _ wr) => y_load1 rfl Tryz.underlying22 rfl ((B6.kep kr).get (i := 0) rfl)) rfl ?_
      refine wg_one 1 (by kernel_rfl) ?_; refine og_ef rfl (ef_lit (z := .int .u8 0) Tryz.underlying22 (by kernel_rfl) rfl rfl rfl rfl rfl) rfl ?_
      rintro _ w2 ⟨g2, rfl, B2, hg2, ex⟩
      refine ⟨Kept.ext ex (kin B6.lt kno), ?_⟩
      replace X := X.ext ex
      replace R := R.ext ex
      replace B6 := B6.ext ex
      have Z2 := X.size
      refine wg_one 2 (by kernel_rfl) ?_; refine og_ef rfl (ef_app rfl rfl eltB R (At.blk (vs := [bv 2]) (B2.congr (by rfl))) rfl (by intro u hu; simp only [List.mem_singleton] at hu; subst hu; rfl) (by omega) (by omega) Z2) rfl ?_
      rintro _ w3 ⟨A3, c3, rfl, R3, be, gr, hgl⟩
      have kp := Kept.own gr (kin B6.lt kno) (kin n6 kno)
      refine ⟨kp, ?_⟩
      replace B6 := B6.kep kp
      replace X := X.trans be
      have hz5 := X.size
      replace R3 : Row _ _ _ _ _ _ ((xs ++ [2]).map bv) := R3.congr rfl (by simp)
      refine wg_one 5 (by kernel_rfl) ?_; refine og_call rfl Tryz.func68 rfl rfl rfl (mvec_any A3 r.A _ c3 r.n r.c _ _ _ R3.bs (by omega) (Bs.ext hr (E.ext X)) (by omega)) rfl ?_
      rintro e w4 ⟨A4, k4, c4, rfl, R4, hk4, ex⟩
      refine ⟨_, rfl, Kept.ext ex (kin B6.lt kno), ?_⟩
      replace X := X.ext ex
      replace B6 := B6.ext ex
      replace R3 := R3.ext ex
      replace R4 := R4.lower hz5
      refine wg_y 6 rfl (by kernel_rfl) (fun wr (kr : Kept [gB6] _ wr) => y_assign rfl) rfl ?_
      refine wg_done (by kernel_rfl) ?_
      refine wq_nop ?_
      refine wq_then_norm (hK11 ?_)
      refine wc_exit ?_
      refine wq_then_exit ?_
      refine wq_blk_hit ?_
      refine wq_then_norm (hK7 ?_)
      refine wc_region ?_
      refine wl_y (y_add rfl rfl (i64_ok (by omega) (by omega))) rfl ?_
      refine wl_y (y_move rfl) rfl ?_
      refine wl_nil ?_
      refine wq_then_norm ?_
      refine hL1 _ _ ⟨i + 1, A4, k4, c4, (xs ++ [2]) ++ vec x.ref, rfl, rfl, by omega, X, R4, by rw [flatMap_take hx, ← hxs]; unfold itmB; rw [if_pos (by omega)]; simp⟩ (by omega) ⟨rfl, rfl, rfl, rfl, (by first | rfl | exact congrArg some (int_val (by omega))), (by first | rfl | exact congrArg some (int_val (by omega))), trivial⟩
    · skip
      refine wc_skip ?_
      refine wq_then_norm (hK9 ?_)
      have okp : okProp x.prop := okx.elim (fun h => by omega) (fun h => h.2)
      have hpb := propB_ok okp
      refine wc_drawG [gB6] (by kernel_rfl) 8 rfl ?_; intro wd7 ex hd7
      replace X := X.ext ex
      replace R := R.ext ex
      replace B6 := B6.ext ex
      refine wg_y 0 rfl (by kernel_rfl) (fun wr (kr : Kept [gB6] _ wr) => y_move rfl) rfl ?_
      refine wg_y 3 rfl (by kernel_rfl) (fun wr (kr : Kept [gB6] _ wr) => y_fieldAddr (o := 1) (s := 16) (off := 0) (o' := 1) rfl Tryz.underlying95 rfl (by kernel_rfl) rfl rfl) rfl ?_
      refine wg_y 4 rfl (by kernel_rfl) (fun wr (kr : Kept [gB6] _ wr) => y_loadx (o := 1) (s := 16) rfl Tryz.underlying32 rfl (by kernel_rfl) (B6.kep kr) rfl) rfl ?_
      refine wg_one 1 (by kernel_rfl) ?_; refine og_ef rfl (ef_lit (z := .int .u8 0) Tryz.underlying22 (by kernel_rfl) rfl rfl rfl rfl rfl) rfl ?_
      rintro _ w2 ⟨g2, rfl, B2, hg2, ex⟩
      refine ⟨Kept.ext ex (kin B6.lt kno), ?_⟩
      replace X := X.ext ex
      replace R := R.ext ex
      replace B6 := B6.ext ex
      have b6 := B6.lt
      refine wg_one 2 (by kernel_rfl) ?_; refine og_ef rfl (ef_app rfl rfl eltB R (At.blk (vs := [bv 1]) (B2.congr (by rfl))) rfl (by intro u hu; simp only [List.mem_singleton] at hu; subst hu; rfl) (by omega) (by omega) X.size) rfl ?_
      rintro _ w3 ⟨A3, c3, rfl, R3, be, gr, hgl⟩
      have kp := Kept.own gr (kin B6.lt kno) (kin n6 kno)
      refine ⟨kp, ?_⟩
      replace B6 := B6.kep kp
      replace X := X.trans be; have n7 := sepApp (b := gB6) hgl b6 n6
      refine wg_one 5 (by kernel_rfl) ?_; refine og_call rfl Tryz.func63 rfl rfl rfl (proposal_any _ (HP.ext (E.ext X)) hfx.2 okp) rfl ?_
      rintro e w5 ⟨A5, k5, c5, rfl, R5, ex⟩
      refine ⟨_, rfl, Kept.ext ex (kin B6.lt kno), ?_⟩
      replace X := X.ext ex
      replace B6 := B6.ext ex
      replace R3 := R3.ext ex
      have hk5 := R5.bs.1
      have n8 : some gB6 ≠ (Value.slice A3 (n + 1 + k5) c3).ownBlock := sepN n7
      refine wg_one 6 (by kernel_rfl) ?_; refine og_ef rfl (ef_app rfl rfl eltB R3 R5.at R5.len (by intro u hu; exact bv_one u hu) (by omega) (by omega) X.size) rfl ?_
      rintro _ w6 ⟨A6, c6, rfl, R6, be, gr, _⟩
      have kp := Kept.own gr (kin B6.lt kno) (kin n8 kno)
      refine ⟨kp, ?_⟩
      replace B6 := B6.kep kp
      replace X := X.trans be
      refine wg_y 7 rfl (by kernel_rfl) (fun wr (kr : Kept [gB6] _ wr) => y_assign rfl) rfl ?_
      refine wg_done (by kernel_rfl) ?_
      refine wq_nop ?_
      refine wq_blk_norm ?_
      refine wq_then_norm (hK7 ?_)
      refine wc_region ?_
      refine wl_y (y_add rfl rfl (i64_ok (by omega) (by omega))) rfl ?_
      refine wl_y (y_move rfl) rfl ?_
      refine wl_nil ?_
      refine wq_then_norm ?_
      refine hL1 _ _ ⟨i + 1, A6, n + 1 + k5, c6, (xs ++ [1]) ++ propB x.prop, rfl, rfl, by omega, X, R6.congr rfl (by simp), by rw [flatMap_take hx, ← hxs]; unfold itmB; rw [if_neg (by omega)]; simp⟩ (by omega) ⟨rfl, rfl, rfl, rfl, (by first | rfl | exact congrArg some (int_val (by omega))), (by first | rfl | exact congrArg some (int_val (by omega))), trivial⟩
  · skip
    refine wc_exit ?_
    refine wq_then_exit ?_
    refine wq_then_exit ?_
    refine wq_blk_hit ?_
    refine wq_then_norm (hK3 ?_)
    refine wc_seq ?_; intro K12 hK12
    have B1o := B1
    have hxf : xs = c.items.flatMap (itmB propB) := by rw [hxs, flatMap_full (by omega)]
    have hxl : xs.length ≤ i * 501 := by rw [hxs]; exact flatMap_tk_le i fun x hx => itmB_ok (ok2 x hx)
    have hnx := R.bs.1
    replace B1 := B1.ext X
    refine wc_region ?_
    refine wl_y (y_move rfl) rfl ?_
    have hz9 := X.size
    refine wl_call Tryz.func68 rfl rfl rfl (mvec_any none A 0 0 n k [] xs _ (Bs.nil _ _) (by omega) R.bs (by omega)) rfl ?_
    rintro e w9 ⟨A9, k9, c9, rfl, R9, hk9, ex⟩
    refine ⟨_, rfl, ?_⟩
    replace X := X.ext ex
    replace R := R.ext ex
    replace B1 := B1.ext ex
    have hl9 := lsz_le n; replace R9 : Row _ _ _ _ _ _ ((vec xs).map bv) := (R9.lower hz9).congr rfl (by simp)
    refine wl_y (y_assign rfl) rfl ?_
    refine wl_nil ?_
    refine wq_then_norm (hK12 ?_)
    refine wc_seq ?_; intro K13 hK13
    refine wc_seq ?_; intro K14 hK14
    refine wc_region ?_
    refine wl_y (y_fieldAddr (o := 1) (s := 1) (off := 0) (o' := 1) rfl Tryz.underlying40 rfl (by kernel_rfl) rfl rfl) rfl ?_
    refine wl_y (y_load1 rfl Tryz.underlying4 rfl (B1.get (i := 1) rfl)) rfl ?_
    refine wl_y (y_not rfl) rfl ?_
    refine wl_nil ?_
    refine wq_then_norm (hK14 ?_)
    refine wc_cond rfl (fun hc3 => ?_) (fun hc3 => ?_)
    · skip
      refine wc_seq ?_; intro K15 hK15
      refine wc_region ?_
      refine wl_y (y_move rfl) rfl ?_
      refine wl_ef (ef_lit (z := .int .u8 0) Tryz.underlying22 (by kernel_rfl) rfl rfl rfl rfl rfl) rfl ?_
      rintro _ w2 ⟨g2, rfl, B2, hg2, ex⟩
      replace X := X.ext ex
      replace B1 := B1.ext ex
      replace R9 := R9.ext ex
      skip
      refine wl_ef (ef_app rfl rfl eltB R9 (At.blk (vs := [bv 0]) (B2.congr (by rfl))) rfl (by intro u hu; simp only [List.mem_singleton] at hu; subst hu; rfl) (by omega) (by omega) X.size) rfl ?_
      rintro _ w3 ⟨A3, c3, rfl, R3, be, gr, hgl⟩
      replace X := X.trans be
      refine wl_y (y_assign rfl) rfl ?_
      refine wl_nil ?_
      refine wq_then_norm (hK15 ?_)
      refine wc_ret ?_
      refine wq_then_ret ?_
      refine hret rfl ?_
      exact ⟨A3, _, c3, rfl, (R3.lower E.size).congr rfl (by unfold comB; rw [← hxf, if_neg (by simpa using hc3)]; simp), E.ext X⟩
    · skip
      refine wc_skip ?_
      refine wq_then_norm (hK13 ?_)
      refine wc_seq ?_; intro K16 hK16
      refine wc_seq ?_; intro K17 hK17
      have hh : c.has = true := by simpa using hc3
      have okw : okWay c.way := ok3.elim (fun h => h.2) (fun h => by rw [h.1] at hh; cases hh)
      have hw9 : w9.heap.size ≤ w9.heap.size := Nat.le_refl _
      have q9 := fun m => R9.ownLt (m := m)
      have S0 : Fb w9.heap.size w9 none 0 [] := Fb.nil _ _ _
      refine wc_region ?_
      refine wl_y (y_fieldAddr (o := 2) (s := 7) (off := 0) (o' := 2) rfl Tryz.underlying40 rfl (by kernel_rfl) rfl rfl) rfl ?_
      refine wl_y (y_fieldAddr (o := 6) (s := 1) (off := 2) (o' := 8) rfl Tryz.underlying38 rfl (by kernel_rfl) rfl rfl) rfl ?_
      refine wl_y (y_load1 rfl Tryz.underlying36 rfl (B1.get (i := 8) rfl)) rfl ?_
      refine wl_y (y_len_slice rfl Tryz.underlying36) rfl ?_
      refine wl_y (y_move rfl) rfl ?_
      refine wl_nil ?_
      refine wq_then_norm (hK17 ?_)
      refine wc_block ?_
      refine wc_loop (fun n' L wr => ∃ (i : Nat) (A : Option Addr) (n k : Nat) (ss : List UInt8), L = [(1, .pointer (some ⟨gB1, 0, none⟩)), (4, .slice A n k), (7, .slice A9 k9 c9), (48, .slice t.A t.n t.c), (49, .int .i64 (t.n : Int)), (50, .int .i64 (i : Int))] ∧ n' = t.n - i ∧ (i ≤ t.n ∧ Ext wB1 wr ∧ Row wr wB1.heap.size 5 A9 k9 c9 ((vec xs).map bv) ∧ Fb w9.heap.size wr A n ss ∧ ss = (c.way.steps.take i).flatMap stpB ∧ w9.heap.size ≤ wr.heap.size)) _ _ ⟨0, none, 0, 0, [], rfl, rfl, by omega, X, R9, S0, by simp, Nat.le_refl _⟩ ⟨rfl, rfl, rfl, rfl, (by first | rfl | exact congrArg some (int_val (by omega))), (by first | rfl | exact congrArg some (int_val (by omega))), trivial⟩ ?_
      rintro KL2 n' L wr ⟨i, A, n, k, ss, rfl, rfl, hi, X, R9, S, hss, hwr⟩ hL2
      refine wc_seq ?_; intro K18 hK18
      refine wc_region ?_
      refine wl_y (y_lss rfl rfl) rfl ?_
      refine wl_nil ?_
      refine wq_then_norm (hK18 ?_)
      refine wc_seq ?_; intro K19 hK19
      refine wc_dec rfl (fun hc4 => ?_) (fun hc4 => ?_)
      · skip
        refine wc_skip ?_
        refine wq_then_norm (hK19 ?_)
        refine wc_seq ?_; intro K20 hK20
        refine wc_block ?_
        refine wc_seq ?_; intro K21 hK21
        obtain ⟨b1, o1, cs1, x, e1, _, hx, hcz, hR, hcx⟩ := HL.2.get2 (by omega) (i := i) (by omega)
        have hfx := hf.2.2.2.2 x (ix_mem hx)
        have okx := okw.2.2 x (ix_mem hx)
        have hsl : ss.length ≤ i * 900100 := by rw [hss]; exact flatMap_tk_le i fun x hx => stpB_ok (okw.2.2 x hx) (hf.2.2.2.2 x hx)
        have hns := S.1.1
        obtain ⟨g0, g1, rfl, u0, u1⟩ := hR
        have l5 := u0.1; have l6 := u1.1; have l7 := hfx.2.1; have l8 := okw.2.1; have l9 := okx.1
        refine wc_region ?_
        refine wl_y (y_ixsE (s := 2) (j := i) e1 rfl rfl Tryz.underlying36 (by kernel_rfl) rfl (by omega)) rfl ?_
        refine wl_y (y_loadp rfl Tryz.underlying98 rfl (by rw [hcz]; kernel_rfl) fun j v hv => by rw [Addr.add_plain]; exact (E.ext X).cellE (hcx j v hv)) rfl ?_
        refine wl_ef (ef_alloc (Z := #[.slice none 0 0, .slice none 0 0]) (by kernel_rfl)) rfl ?_
        rintro _ wA9 ⟨gB9, rfl, D9, hgB9, exA⟩
        refine wl_ef (ef_storeP (o := 0) rfl rfl (by kernel_rfl) D9 (Nat.le_of_ble_eq_true rfl) (all_ones rfl)) rfl ?_
        rintro _ wB9 ⟨rfl, B9, cg⟩
        have ex := exA.chg cg hgB9; clear cg exA D9
        have lB9 := B9.lt; have zB9 := ex.size
        replace X := X.ext ex
        replace R9 := R9.ext ex
        replace S := S.ext ex
        refine wl_nil ?_
        refine wq_then_norm (hK21 ?_)
        refine wc_seq ?_; intro K22 hK22
        refine wc_region ?_
        refine wl_y (y_assign rfl) rfl ?_
        refine wl_nil ?_
        refine wq_then_norm (hK22 ?_)
        refine wc_seq ?_; intro K23 hK23
        refine wc_seq ?_; intro K24 hK24
        refine wc_region ?_
        refine wl_y (y_fieldAddr (o := 1) (s := 1) (off := 0) (o' := 1) rfl Tryz.underlying98 rfl (by kernel_rfl) rfl rfl) rfl ?_
        refine wl_y (y_load1 rfl Tryz.underlying96 rfl (B9.get (i := 1) rfl)) rfl ?_
        refine wl_y (y_len_slice rfl Tryz.underlying96) rfl ?_
        refine wl_y (y_move rfl) rfl ?_
        refine wl_nil ?_
        refine wq_then_norm (hK24 ?_)
        refine wc_block ?_
        refine wc_loop (fun n' L wq => ∃ (k2 : Nat) (A2 : Option Addr) (n2 c2 : Nat) (ts : List UInt8), L = [(1, .pointer (some ⟨gB1, 0, none⟩)), (4, .slice A n k), (7, .slice A9 k9 c9), (9, .pointer (some ⟨gB9, 0, none⟩)), (10, .slice A2 n2 c2), (48, .slice t.A t.n t.c), (49, .int .i64 (t.n : Int)), (50, .int .i64 (i : Int)), (55, .slice g1.A g1.n g1.c), (56, .int .i64 (g1.n : Int)), (57, .int .i64 (k2 : Int))] ∧ n' = g1.n - k2 ∧ (k2 ≤ g1.n ∧ Ext wB1 wq ∧ Row wq wB1.heap.size 5 A9 k9 c9 ((vec xs).map bv) ∧ Fb w9.heap.size wq A n ss ∧ Blk wq gB9 98 (twoV g0 g1) ∧ Bs wq A2 n2 ts ∧ ts = (x.to.take k2).flatMap bxdB ∧ w9.heap.size ≤ wq.heap.size)) _ _ ⟨0, none, 0, 0, [], rfl, rfl, by omega, X, R9, S, B9, Bs.nil _ _, by simp, by have := ex.size; omega⟩ ⟨rfl, rfl, rfl, rfl, rfl, rfl, (by first | rfl | exact congrArg some (int_val (by omega))), (by first | rfl | exact congrArg some (int_val (by omega))), rfl, (by first | rfl | exact congrArg some (int_val (by omega))), (by first | rfl | exact congrArg some (int_val (by omega))), trivial⟩ ?_
        rintro KL3 n' L wq ⟨k2, A2, n2, c2, ts, rfl, rfl, hk2, X, R9, S, B9, T, hts, hwq⟩ hL3
        refine wc_seq ?_; intro K25 hK25
        refine wc_region ?_
        refine wl_y (y_lss rfl rfl) rfl ?_
        refine wl_nil ?_
        refine wq_then_norm (hK25 ?_)
        refine wc_seq ?_; intro K26 hK26
        refine wc_dec rfl (fun hc5 => ?_) (fun hc5 => ?_)
        · skip
          refine wc_skip ?_
          refine wq_then_norm (hK26 ?_)
          refine wc_seq ?_; intro K27 hK27
          refine wc_block ?_
          refine wc_seq ?_; intro K28 hK28
          obtain ⟨b2, o2, cs2, z, e2, _, hz, hcz2, hR2, hcx2⟩ := u1.get2 (by omega) (i := k2) (by omega)
          obtain ⟨f0, f1, rfl, v0, v1⟩ := hR2
          have okz := okx.2 z (ix_mem hz)
          have m0 := v0.1; have m1 := v1.1; have m2 := okz.1; have m3 := okz.2
          have htl : ts.length ≤ k2 * 90 := by rw [hts]; exact flatMap_tk_le k2 fun x hx => bxdB_ok (okx.2 x hx)
          have hnt := T.1
          refine wc_region ?_
          refine wl_y (y_ixsE (s := 2) (j := k2) e2 rfl rfl Tryz.underlying96 (by kernel_rfl) rfl (by omega)) rfl ?_
          refine wl_y (y_loadp rfl Tryz.underlying100 rfl (by rw [hcz2]; kernel_rfl) fun j v hv => by rw [Addr.add_plain]; exact (E.ext X).cellE (hcx2 j v hv)) rfl ?_
          refine wl_ef (ef_alloc (Z := #[.slice none 0 0, .slice none 0 0]) (by kernel_rfl)) rfl ?_
          rintro _ wA12 ⟨gB12, rfl, D12, hgB12, exA⟩
          refine wl_ef (ef_storeP (o := 0) rfl rfl (by kernel_rfl) D12 (Nat.le_of_ble_eq_true rfl) (all_ones rfl)) rfl ?_
          rintro _ wB12 ⟨rfl, B12, cg⟩
          have ex := exA.chg cg hgB12; clear cg exA D12
          have lB12 := B12.lt; have zB12 := ex.size
          replace X := X.ext ex
          replace R9 := R9.ext ex
          replace S := S.ext ex
          replace B9 := B9.ext ex
          replace T := T.ext ex
          refine wl_nil ?_
          refine wq_then_norm (hK28 ?_)
          refine wc_draw (by kernel_rfl) 8 rfl ?_; intro wd19 ex hd19
          replace X := X.ext ex
          replace R9 := R9.ext ex
          replace S := S.ext ex
          replace B9 := B9.ext ex
          replace T := T.ext ex
          replace B12 := B12.ext ex
          have z19 := ex.size
          refine wm_y 0 rfl (by kernel_rfl) (y_move rfl) rfl ?_
          refine wm_y 1 rfl (by kernel_rfl) (y_fieldAddr (o := 0) (s := 1) (off := 0) (o' := 0) rfl Tryz.underlying100 rfl (by kernel_rfl) rfl rfl) rfl ?_
          refine wm_y 2 rfl (by kernel_rfl) (y_load1 rfl Tryz.underlying22 rfl (B12.get (i := 0) rfl)) rfl ?_
          refine wm_y 4 rfl (by kernel_rfl) (y_fieldAddr (o := 1) (s := 1) (off := 0) (o' := 1) rfl Tryz.underlying100 rfl (by kernel_rfl) rfl rfl) rfl ?_
          refine wm_y 5 rfl (by kernel_rfl) (y_load1 rfl Tryz.underlying22 rfl (B12.get (i := 1) rfl)) rfl ?_
          refine wm_one 3 (by kernel_rfl) ?_; refine om_call rfl Tryz.func68 rfl rfl rfl (mvec_any A2 f0.A n2 c2 f0.n f0.c _ _ _ T (by omega) (Bs.ext v0 (E.ext X)) (by omega)) rfl ?_
          rintro e w4 ⟨A4, k4, c4, rfl, R4, hk4, ex⟩
          refine ⟨_, rfl, .inr ex, ?_⟩
          replace X := X.ext ex
          replace R9 := R9.ext ex
          replace S := S.ext ex
          replace B9 := B9.ext ex
          replace T := T.ext ex
          replace B12 := B12.ext ex
          have hl4 := lsz_le f0.n; have z4 := ex.size
          refine wm_one 6 (by kernel_rfl) ?_; refine om_call rfl Tryz.func68 rfl rfl rfl (mvec_any A4 f1.A k4 c4 f1.n f1.c _ _ _ R4.bs (by omega) (Bs.ext v1 (E.ext X)) (by omega)) rfl ?_
          rintro e w5 ⟨A5, k5, c5, rfl, R5, hk5, ex⟩
          refine ⟨_, rfl, .inr ex, ?_⟩
          replace X := X.ext ex
          replace R9 := R9.ext ex
          replace S := S.ext ex
          replace B9 := B9.ext ex
          replace B12 := B12.ext ex
          replace R4 := R4.ext ex
          have z5 := ex.size
          refine wm_y 7 rfl (by kernel_rfl) (y_assign rfl) rfl ?_
          refine wm_done (by kernel_rfl) ?_
          refine wq_nop ?_
          refine wq_blk_norm ?_
          refine wq_then_norm (hK27 ?_)
          refine wc_region ?_
          refine wl_y (y_add rfl rfl (i64_ok (by omega) (by omega))) rfl ?_
          refine wl_y (y_move rfl) rfl ?_
          refine wl_nil ?_
          refine wq_then_norm ?_
          refine hL3 _ _ ⟨k2 + 1, A5, k5, c5, (ts ++ vec z.enc) ++ vec z.box, rfl, rfl, by omega, X, R9, S, B9, R5.bs, by rw [flatMap_take hz, ← hts]; unfold bxdB; simp, by omega⟩ (by omega) ⟨rfl, rfl, rfl, rfl, rfl, rfl, (by first | rfl | exact congrArg some (int_val (by omega))), (by first | rfl | exact congrArg some (int_val (by omega))), rfl, (by first | rfl | exact congrArg some (int_val (by omega))), (by first | rfl | exact congrArg some (int_val (by omega))), trivial⟩
        · skip
          refine wc_exit ?_
          refine wq_then_exit ?_
          refine wq_then_exit ?_
          refine wq_blk_hit ?_
          refine wq_then_norm (hK23 ?_)
          have htl : ts.length ≤ k2 * 90 := by rw [hts]; exact flatMap_tk_le k2 fun x hx => bxdB_ok (okx.2 x hx)
          have hnt := T.1
          have htf : ts = x.to.flatMap bxdB := by rw [hts, flatMap_full (by omega)]
          refine wc_region ?_
          refine wl_y (y_move rfl) rfl ?_
          refine wl_y (y_fieldAddr (o := 0) (s := 1) (off := 0) (o' := 0) rfl Tryz.underlying98 rfl (by kernel_rfl) rfl rfl) rfl ?_
          refine wl_y (y_load1 rfl Tryz.underlying22 rfl (B9.get (i := 0) rfl)) rfl ?_
          refine wl_call Tryz.func68 rfl rfl rfl (mvec_any A g0.A n k g0.n g0.c _ _ _ S.1 (by omega) (Bs.ext u0 (E.ext X)) (by omega)) rfl ?_
          rintro e w4 ⟨A4, k4, c4, rfl, R4, hk4, ex⟩
          refine ⟨_, rfl, ?_⟩
          replace X := X.ext ex
          replace R9 := R9.ext ex
          replace S := S.ext ex
          replace B9 := B9.ext ex
          replace T := T.ext ex
          have hl4 := lsz_le g0.n; have z4 := ex.size
          refine wl_y (y_move rfl) rfl ?_
          have hz5 := X.size
          refine wl_call Tryz.func68 rfl rfl rfl (mvec_any A4 A2 k4 c4 n2 c2 _ _ _ R4.bs (by omega) T (by omega)) rfl ?_
          rintro e w5 ⟨A5, k5, c5, rfl, R5, hk5, ex⟩
          refine ⟨_, rfl, ?_⟩
          replace X := X.ext ex
          replace R9 := R9.ext ex
          replace B9 := B9.ext ex
          replace T := T.ext ex
          replace R4 := R4.ext ex
          have z5 := ex.size
          refine wl_y (y_assign rfl) rfl ?_
          refine wl_nil ?_
          refine wq_blk_norm ?_
          refine wq_then_norm (hK20 ?_)
          refine wc_region ?_
          refine wl_y (y_add rfl rfl (i64_ok (by omega) (by omega))) rfl ?_
          refine wl_y (y_move rfl) rfl ?_
          refine wl_nil ?_
          refine wq_then_norm ?_
          refine hL2 _ _ ⟨i + 1, A5, k5, c5, (ss ++ vec x.box) ++ vec ts, rfl, rfl, by omega, X, R9, R5.fb.mono (by omega), by rw [flatMap_take hx, ← hss]; unfold stpB; rw [← htf]; simp, by omega⟩ (by omega) ⟨rfl, rfl, rfl, rfl, (by first | rfl | exact congrArg some (int_val (by omega))), (by first | rfl | exact congrArg some (int_val (by omega))), trivial⟩
      · skip
        refine wc_exit ?_
        refine wq_then_exit ?_
        refine wq_then_exit ?_
        refine wq_blk_hit ?_
        refine wq_then_norm (hK16 ?_)
        refine wc_seq ?_; intro K29 hK29
        have B1 := B1o.ext X
        have hsl : ss.length ≤ i * 900100 := by rw [hss]; exact flatMap_tk_le i fun x hx => stpB_ok (okw.2.2 x hx) (hf.2.2.2.2 x hx)
        have hns := S.1.1
        have hnv := R9.bs.1
        have l8 := okw.2.1
        have hlb := leafB_ok okw.1.1
        have hsf : ss = c.way.steps.flatMap stpB := by rw [hss, flatMap_full (by omega)]
        have KS : Kp wr.heap.size (Value.slice A9 (k9 + 1) c9).ownBlock.toList (fun w => Bs w A n ss) wr := S.kp fun g hg => q9 _ g hg
        have n1 : some gB1 ≠ (Value.slice A9 (k9 + 1) c9).ownBlock := R9.sepLo B1o.lt
        refine wc_drawG [gB1] (by kernel_rfl) 11 rfl ?_; intro wd23 ex hd23
        replace X := X.ext ex
        replace R9 := R9.ext ex
        replace B1 := B1.ext ex
        replace KS := KS.ext ex
        refine wg_y 0 rfl (by kernel_rfl) (fun wr (kr : Kept [gB1] _ wr) => y_move rfl) rfl ?_
        refine wg_y 3 rfl (by kernel_rfl) (fun wr (kr : Kept [gB1] _ wr) => y_fieldAddr (o := 2) (s := 7) (off := 0) (o' := 2) rfl Tryz.underlying40 rfl (by kernel_rfl) rfl rfl) rfl ?_
        refine wg_y 4 rfl (by kernel_rfl) (fun wr (kr : Kept [gB1] _ wr) => y_fieldAddr (o := 0) (s := 6) (off := 2) (o' := 2) rfl Tryz.underlying38 rfl (by kernel_rfl) rfl rfl) rfl ?_
        refine wg_y 5 rfl (by kernel_rfl) (fun wr (kr : Kept [gB1] _ wr) => y_loadx (o := 2) (s := 6) rfl Tryz.underlying25 rfl (by kernel_rfl) (B1.kep kr) rfl) rfl ?_
        refine wg_y 8 rfl (by kernel_rfl) (fun wr (kr : Kept [gB1] _ wr) => y_move rfl) rfl ?_
        refine wg_one 1 (by kernel_rfl) ?_; refine og_ef rfl (ef_lit (z := .int .u8 0) Tryz.underlying22 (by kernel_rfl) rfl rfl rfl rfl rfl) rfl ?_
        rintro _ w2 ⟨g2, rfl, B2, hg2, ex⟩
        refine ⟨Kept.ext ex (kin B1.lt kno), ?_⟩
        replace X := X.ext ex
        replace R9 := R9.ext ex
        replace B1 := B1.ext ex
        replace KS := KS.ext ex
        refine wg_one 2 (by kernel_rfl) ?_; refine og_ef rfl (ef_app rfl rfl eltB R9 (At.blk (vs := [bv 1]) (B2.congr (by rfl))) rfl (by intro u hu; simp only [List.mem_singleton] at hu; subst hu; rfl) (by omega) (by omega) X.size) rfl ?_
        rintro _ w3 ⟨A3, c3, rfl, R3, be, gr, hgl⟩
        have kp := Kept.own gr (kin B1.lt kno) (kin n1 kno)
        refine ⟨kp, ?_⟩
        replace B1 := B1.kep kp
        replace X := X.trans be; replace KS := KS.own gr hgl
        refine wg_one 6 (by kernel_rfl) ?_; refine og_call rfl Tryz.func108 rfl rfl rfl (leafBytes20_any _ (HL.1.ext (E.ext X)) hf.2.2.1 okw.1.1) rfl ?_
        rintro e w5 ⟨A5, k5, c5, rfl, R5, ex⟩
        refine ⟨_, rfl, Kept.ext ex (kin B1.lt kno), ?_⟩
        replace X := X.ext ex
        replace B1 := B1.ext ex
        replace KS := KS.ext ex
        replace R3 := R3.ext ex
        have hk5 := R5.bs.1
        refine wg_one 7 (by kernel_rfl) ?_; refine og_ef rfl (ef_app rfl rfl eltB R3 R5.at R5.len (by intro u hu; exact bv_one u hu) (by omega) (by omega) X.size) rfl ?_
        rintro _ w6 ⟨A6, c6, rfl, R6, be, gr, hgl⟩
        have kp := Kept.own gr (kin B1.lt kno) (kin (R3.sepLo B1o.lt) kno)
        refine ⟨kp, ?_⟩
        replace B1 := B1.kep kp
        replace X := X.trans be; replace KS := (KS.sameN (m := k9 + 1 + k5)).own gr hgl
        replace R6 : Row _ _ _ _ _ _ ((vec xs ++ 1 :: leafB c.way.leaf).map bv) := R6.congr rfl (by simp)
        have hz9 := X.size
        refine wg_one 9 (by kernel_rfl) ?_; refine og_call rfl Tryz.func68 rfl rfl rfl (mvec_any A6 A _ c6 n k _ _ _ R6.bs (by omega) KS.out (by omega)) rfl ?_
        rintro e w7 ⟨A7, k7, c7, rfl, R7, hk7, ex⟩
        refine ⟨_, rfl, Kept.ext ex (kin B1.lt kno), ?_⟩
        replace X := X.ext ex
        replace B1 := B1.ext ex
        replace KS := KS.ext ex
        replace R6 := R6.ext ex
        refine wg_y 10 rfl (by kernel_rfl) (fun wr (kr : Kept [gB1] _ wr) => y_assign rfl) rfl ?_
        refine wg_done (by kernel_rfl) ?_
        refine wq_nop ?_
        refine wq_then_norm (hK29 ?_)
        refine wc_ret ?_
        refine hret rfl ?_
        exact ⟨A7, _, c7, rfl, ((R7.lower hz9).lower E.size).congr rfl (by unfold comB; rw [← hxf, if_pos hh, ← hsf]; simp), E.ext X⟩
end
end Go.Proofs.YtpgalbgonmclaaaGreat
