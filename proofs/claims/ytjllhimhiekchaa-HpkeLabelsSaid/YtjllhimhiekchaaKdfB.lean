/- The reference's Expand: what it hands back. Lengths up to 2^20. -/
import Derived.Test.YtjllhimhiekchaaWireA
import Derived.Test.YtjllhimhiekchaaMacB
import Derived.Test.YtjllhimhiekchaaFieldQ
/- The reference's lengths and vectors; kdf's and the reference's Expand, Label, Secret, Ref: what each hands back. Lengths up to 2^20. -/
namespace Go.Proofs.Ytjllhimhiekchaa
open Go.RowKit
attribute [local irreducible] Y Ef WL WC WK WQ WM OpM
theorem dj_new {w : World} {base g : Nat} {e : TypeId} {A : Option Addr} {n c : Nat} {xs : List Value} (h : Row w base e A n c xs) (hg : w.heap.size ≤ g) : Dj A (some ⟨g, 0, none⟩) := fun b o b' o' h1 h2 => by
  subst h1
  injection h2 with h2
  injection h2 with h2 _ _
  have := (Row.lt h).2
  omega
theorem expand_any (A B : Option Addr) (n c m d k : Nat) (ks is : List UInt8) (w : World) (HA : Bs w A n ks) (hn : n ≤ 35184372088832) (HB : Bs w B m is) (hm : m ≤ 35184372087000) (hk : k ≤ 8160) :
    Calls Try.prog 46 #[.slice A n c, .slice B m d, .int .i64 (k : Int)] w fun e w' => ∃ A' c', e = .returned (.tuple #[.slice A' k c', .int .u8 0]) ∧ Bs w' A' k (Kdf.expand ks is k) ∧ k ≤ c' ∧ Ext w w' := by
  refine vc_enter2 36 Try.func46 rfl rfl rfl rfl ?_
  intro Q hret
  refine wc_seq ?_; intro K1 hK1
  refine wc_region ?_
  refine wl_y (y_assign rfl) rfl ?_
  refine wl_y (y_assign rfl) rfl ?_
  refine wl_nil ?_
  refine wq_then_norm (hK1 ?_)
  refine wc_scope2 0 (fun n' L wr => ∃ (j c8 m9 c9 : Nat) (A8 A9 : Option Addr), L = [(0, .slice A n c), (1, .slice B m d), (2, .int .i64 (k : Int)), (8, .slice A8 (32 * j) c8), (9, .slice A9 m9 c9), (10, .int .u8 (j : Int))] ∧ n' = 256 - j ∧ (j ≤ 255 ∧ Ext w wr ∧ Row wr w.heap.size 5 A8 (32 * j) c8 ((Kdf.okm ks is j).map bv) ∧ Bs wr A9 m9 (Kdf.T ks is j))) rfl ?_ ?_
  · rintro G n' L wr ⟨j, c8, m9, c9, A8, A9, rfl, rfl, hj, F, R, H9⟩ hG0
    refine wc_seq ?_; intro K2 hK2
    refine wc_seq ?_; intro K3 hK3
    refine wc_region ?_
    refine wl_y (y_move rfl) rfl ?_
    refine wl_y (y_len_slice rfl Try.underlying22) rfl ?_
    refine wl_y (y_move rfl) rfl ?_
    refine wl_y (y_lss rfl rfl) rfl ?_
    refine wl_nil ?_
    refine wq_then_norm (hK3 ?_)
    refine wc_dec rfl (fun hc2 => ?_) (fun hc2 => ?_)
    · skip
      refine wc_seq ?_; intro K4 hK4
      have hcnt : (UInt8.ofNat (j + 1)).toNat = j + 1 := by rw [UInt8.toNat_ofNat']; omega
      have hT := Kdf.T_le ks is j
      refine wc_region ?_
      refine wl_y (y_move rfl) rfl ?_
      refine wl_y (y_add rfl rfl (u8_is (x := j + 1) (by omega))) rfl ?_
      refine wl_y (y_assign rfl) rfl ?_
      refine wl_nil ?_
      refine wq_then_norm (hK4 ?_)
      refine wc_seq ?_; intro K5 hK5
      refine wc_region ?_
      refine wl_y (y_move rfl) rfl ?_
      refine wl_y (y_move rfl) rfl ?_
      refine wl_y (y_move rfl) rfl ?_
      refine wl_y (y_move rfl) rfl ?_
      refine wl_ef (ef_lit (z := .int .u8 0) Try.underlying22 (by kernel_rfl) rfl rfl rfl rfl rfl) rfl ?_
      rintro _ w4 ⟨g4, rfl, B4, hg4, ex⟩
      have F4 := F.ext ex; have H4 : Bs w4 (some ⟨g4, 0, none⟩) 1 [UInt8.ofNat (j + 1)] := bs_blk' (xs := [UInt8.ofNat (j + 1)]) (B4.congr rfl) rfl; have H9a := H9.ext ex; have Ra := R.ext ex
      refine wl_ef (ef_lit (z := .slice none 0 0) Try.underlying79 (by kernel_rfl) rfl rfl rfl rfl rfl) rfl ?_
      rintro _ w5 ⟨g5, rfl, B5, hg5, ex⟩
      have F5 := F4.ext ex; have S5 := bss_three B5 (H9a.ext ex) (HB.wk F5) (H4.ext ex); have Rb := Ra.ext ex
      refine wl_call Try.func69 rfl rfl rfl (tag_any A _ n c 3 3 ks _ _ (HA.wk F5) hn S5 (by omega) (by simp [HB.1]; omega)) rfl ?_
      rintro e w6 ⟨g6, rfl, hg6, B6, ex⟩
      refine ⟨_, rfl, ?_⟩
      have F6 := F5.ext ex; have H6 := bs_blk' B6 (Mac.tag_length _ _); have hdj := dj_new Rb hg6; have Rc := Rb.ext ex; have hs6 := F6.size
      refine wl_y (y_assign rfl) rfl ?_
      refine wl_nil ?_
      refine wq_then_norm (hK5 ?_)
      refine wc_seq ?_; intro K6 hK6
      refine wc_region ?_
      refine wl_y (y_move rfl) rfl ?_
      refine wl_y (y_move rfl) rfl ?_
      refine wl_ef (ef_app rfl rfl eltB Rc H6.2 (by rw [List.length_map, Mac.tag_length]) (by intro u hu; exact bv_one u hu) (by omega) (by omega) hs6) rfl ?_
      rintro _ w7 ⟨A7, c7, rfl, R7, be, gr, hl⟩
      have F7 := F6.trans be; have R8 := R7.cat; have H8 := H6.app hdj gr Rc.none_s; have hTj : Mac.tag ks [Kdf.T ks is j, is, [UInt8.ofNat (j + 1)]].flatten = Kdf.T ks is (j + 1) := by simp [Kdf.T]
      rw [hTj] at R8 H8
      refine wl_y (y_assign rfl) rfl ?_
      refine wl_nil ?_
      refine wq_then_norm (hK6 ?_)
      refine wc_goto ?_
      refine wq_then_goto ?_
      refine wq_jump_hit ?_
      refine hG0 _ _ ⟨j + 1, c7, 32, 32, A7, some ⟨g6, 0, none⟩, rfl, rfl, by omega, F7, R8, H8⟩ (by omega) ⟨rfl, rfl, (by first | rfl | exact congrArg some (int_val (by omega))), rfl, rfl, (by first | rfl | exact congrArg some (int_val (by omega))), trivial⟩
    · skip
      refine wc_skip ?_
      refine wq_then_norm (hK2 ?_)
      refine wc_seq ?_; intro K7 hK7
      refine wc_region ?_
      refine wl_y (y_move rfl) rfl ?_
      refine wl_y (y_move rfl) rfl ?_
      refine wl_y (y_cuth (s := 1) rfl rfl Try.underlying22 (by kernel_rfl) (j := k) rfl (by have := R.cap; omega)) rfl ?_
      refine wl_y (y_assign rfl) rfl ?_
      refine wl_y (y_assign rfl) rfl ?_
      refine wl_nil ?_
      refine wq_then_norm (hK7 ?_)
      refine wc_ret ?_
      refine wq_jump_ret ?_
      refine hret rfl rfl ?_
      exact ⟨A8, c8, rfl, by have := R.bs.take (k := k) (by omega); rw [Kdf.expand_of _ _ _ _ (by omega)] at this; exact this, by have := R.cap; omega, F⟩
  · intro G hG0
    refine wc_seq ?_; intro K8 hK8
    refine wc_seq ?_; intro K9 hK9
    refine wc_region ?_
    refine wl_y (y_move rfl) rfl ?_
    refine wl_y (Y.as (y_lss rfl rfl) (congrArg Value.bool (decide_eq_false (by omega)))) rfl ?_
    refine wl_y (y_move rfl) rfl ?_
    refine wl_gy 13 rfl rfl (y_move rfl) rfl ?_
    refine wl_gy 13 rfl rfl (Y.as (y_gtr rfl rfl) (congrArg Value.bool (decide_eq_false (by omega)))) rfl ?_
    refine wl_y (y_pickf rfl rfl) rfl ?_
    refine wl_nil ?_
    refine wq_then_norm (hK9 ?_)
    refine wc_false rfl rfl ?_
    refine wc_skip ?_
    refine wq_then_norm (hK8 ?_)
    refine wc_seq ?_; intro K10 hK10
    refine wc_region ?_
    refine wl_y (y_assign rfl) rfl ?_
    refine wl_y (y_assign rfl) rfl ?_
    refine wl_nil ?_
    refine wq_then_norm (hK10 ?_)
    refine wc_seq ?_; intro K11 hK11
    refine wc_region ?_
    refine wl_y (y_assign rfl) rfl ?_
    refine wl_nil ?_
    refine wq_then_norm (hK11 ?_)
    refine wc_seq ?_; intro KG0 hKG0
    refine wc_label ?_
    refine wq_then_norm (hKG0 ?_)
    exact hG0 _ _ ⟨0, 0, 0, 0, none, none, rfl, rfl, by omega, Ext.refl _, Row.empty _ _ _, Bs.nil _ none⟩ ⟨rfl, rfl, (by first | rfl | exact congrArg some (int_val (by omega))), rfl, rfl, (by first | rfl | exact congrArg some (int_val (by omega))), trivial⟩
end Go.Proofs.Ytjllhimhiekchaa

namespace Go.Proofs.Ytjllhimhiekchaa
open Go.RowKit
attribute [local irreducible] Y Ef WL WC WK WQ WM OpM
theorem eltS : Elt Try.prog 79 22 24 := Elt.of Try.underlying79 (z := .slice none 0 0) (by kernel_rfl) rfl
/-- Slices of bytes, each apart from the row at A. -/
def Parts (w : World) (A : Option Addr) (vs : List Value) (xss : List (List UInt8)) : Prop :=
  vs.length = xss.length ∧ ∀ i, i < xss.length → ∃ B m c, vs[i]? = some (.slice B m c) ∧ Bs w B m (xss.getD i []) ∧ Dj A B ∧ ∀ b o s, B = some ⟨b, o, s⟩ → b < w.heap.size
theorem Parts.nil (w : World) (A : Option Addr) : Parts w A [] [] := ⟨rfl, fun i hi => by cases hi⟩
theorem Parts.ext {w w' : World} {A : Option Addr} {vs : List Value} {xss : List (List UInt8)} (h : Parts w A vs xss) (e : Ext w w') : Parts w' A vs xss :=
  ⟨h.1, fun i hi => by
    obtain ⟨B, m, c, h1, h2, h3, h4⟩ := h.2 i hi
    exact ⟨B, m, c, h1, h2.ext e, h3, fun b o s hb => Nat.lt_of_lt_of_le (h4 b o s hb) e.size⟩⟩
theorem Parts.snoc {w : World} {A B : Option Addr} {m c : Nat} {vs : List Value} {xs : List UInt8} {xss : List (List UInt8)} (h : Parts w A vs xss) (hb : Bs w B m xs) (hd : Dj A B) (hl : ∀ b o s, B = some ⟨b, o, s⟩ → b < w.heap.size) : Parts w A (vs ++ [.slice B m c]) (xss ++ [xs]) :=
  ⟨by simp [h.1], fun i hi => by
    by_cases hlt : i < xss.length
    · obtain ⟨B', m', c', h1, h2, h3, h4⟩ := h.2 i hlt
      exact ⟨B', m', c', by rw [List.getElem?_append_left (by rw [h.1]; exact hlt)]; exact h1, by simpa [List.getElem?_append, hlt] using h2, h3, h4⟩
    · have : i = xss.length := by simp at hi; omega
      subst this
      exact ⟨B, m, c, by rw [← h.1]; simp, by simpa using hb, hd, hl⟩⟩
theorem Parts.app {w w' : World} {A A' : Option Addr} {n c n' c' : Nat} {vs : List Value} {xss : List (List UInt8)} (h : Parts w A vs xss) (hg : w.grownBy w' (Value.slice A n c).ownBlock)
    (hl : (Value.slice A' n' c').ownBlock = (Value.slice A n c).ownBlock ∨ (Value.slice A' n' c').ownBlock = some w.heap.size) (hA : ∀ b o s, A = some ⟨b, o, s⟩ → s = none) : Parts w' A' vs xss :=
  ⟨h.1, fun i hi => by
    obtain ⟨B, m, k, h1, h2, h3, h4⟩ := h.2 i hi
    refine ⟨B, m, k, h1, h2.app h3 hg hA, ?_, fun b o s hb => Nat.lt_of_lt_of_le (h4 b o s hb) hg.size⟩
    intro b o b' o' e1 e2 hbb
    subst e1; subst e2; subst hbb
    have hlt := h4 b o' none rfl
    rcases hl with hl | hl
    · cases A with
      | none => simp [Value.ownBlock] at hl
      | some a =>
        obtain ⟨b2, o2, s⟩ := a
        have := hA b2 o2 s rfl
        subst this
        simp only [Value.ownBlock, Option.some.injEq] at hl
        exact h3 b2 o2 b o' rfl rfl hl.symm
    · simp only [Value.ownBlock, Option.some.injEq] at hl
      omega⟩
/-- Memory that a call has just made lies apart from a row that was there. -/
theorem dj_row {w w' : World} {b1 b2 : Nat} {e1 e2 : TypeId} {A B : Option Addr} {n c m d : Nat} {xs ys : List Value} (h : Row w b1 e1 A n c xs) (k : Row w' b2 e2 B m d ys) (hb : w.heap.size ≤ b2) : Dj A B := fun b o b' o' h1 h2 => by
  subst h1; subst h2
  have h3 := (Row.lt h).2
  have h4 := (Row.lt k).1
  omega
theorem Row.blk_lt {w : World} {base : Nat} {e : TypeId} {A : Option Addr} {n c : Nat} {xs : List Value} (h : Row w base e A n c xs) (b o : Nat) (s) (hA : A = some ⟨b, o, s⟩) : b < w.heap.size := by
  have := h.none_s b o s hA
  subst this; subst hA
  exact (Row.lt h).2
def Ts (ks is : List UInt8) (j : Nat) : List (List UInt8) := (List.range j).map fun i => Kdf.T ks is (i + 1)
theorem Ts_length (ks is : List UInt8) (j : Nat) : (Ts ks is j).length = j := by simp [Ts]
theorem Ts_succ (ks is : List UInt8) (j : Nat) : Ts ks is (j + 1) = Ts ks is j ++ [Kdf.T ks is (j + 1)] := by simp [Ts, List.range_succ]
theorem Ts_get (ks is : List UInt8) (j i : Nat) (h : i < j) : (Ts ks is j).getD i [] = Kdf.T ks is (i + 1) := by simp [Ts, h]
theorem refExpand_any (A B : Option Addr) (n c m d k : Nat) (ks is : List UInt8) (w : World) (HA : Bs w A n ks) (hn : n ≤ 35184372088832) (HB : Bs w B m is) (hm : m ≤ 35184372087000) (hk : k ≤ 8160) :
    Calls Try.prog 50 #[.slice A n c, .slice B m d, .int .i64 (k : Int)] w fun e w' => ∃ A' c', e = .returned (.slice A' k c') ∧ Bs w' A' k (Kdf.expand ks is k) ∧ Ext w w' := by
  refine vc_enter1 57 Try.func50 rfl rfl rfl rfl ?_
  intro Q hret
  refine wc_seq ?_; intro K1 hK1
  refine wc_region ?_
  refine wl_y (y_assign rfl) rfl ?_
  refine wl_nil ?_
  refine wq_then_norm (hK1 ?_)
  refine wc_seq ?_; intro K2 hK2
  refine wc_region ?_
  refine wl_y (y_assign rfl) rfl ?_
  refine wl_nil ?_
  refine wq_then_norm (hK2 ?_)
  refine wc_seq ?_; intro K3 hK3
  refine wc_seq ?_; intro K4 hK4
  refine wc_region ?_
  refine wl_y (y_assign rfl) rfl ?_
  refine wl_nil ?_
  refine wq_then_norm (hK4 ?_)
  refine wc_block ?_
  refine wc_loop (fun n' L wr => ∃ (j c7 : Nat) (A7 : Option Addr) (vs : List Value), L = [(0, .slice A n c), (1, .slice B m d), (2, .int .i64 (k : Int)), (7, .slice A7 j c7), (8, .int .i64 (j : Int))] ∧ n' = 256 - j ∧ (j ≤ (k + 31) / 32 ∧ Ext w wr ∧ Row wr w.heap.size 22 A7 j c7 vs ∧ Parts wr A7 vs (Ts ks is j))) _ _ ⟨0, 0, none, [], rfl, rfl, by omega, Ext.refl _, Row.empty _ _ _, Parts.nil _ _⟩ ⟨rfl, rfl, (by first | rfl | exact congrArg some (int_val (by omega))), rfl, (by first | rfl | exact congrArg some (int_val (by omega))), trivial⟩ ?_
  rintro KL1 n' L wr ⟨j, c7, A7, vs, rfl, rfl, hj, F, R, HP⟩ hL1
  refine wc_seq ?_; intro K5 hK5
  refine wc_seq ?_; intro K6 hK6
  refine wc_region ?_
  refine wl_y (y_move rfl) rfl ?_
  refine wl_y (y_move rfl) rfl ?_
  refine wl_y (y_add rfl rfl (i64_ok (by omega) (by omega))) rfl ?_
  refine wl_y (y_quo rfl rfl (by omega) (IntWalk.i64_quo _ _ (by omega))) rfl ?_
  refine wl_y (y_lss rfl rfl) rfl ?_
  refine wl_nil ?_
  refine wq_then_norm (hK6 ?_)
  refine wc_dec rfl (fun hc1 => ?_) (fun hc1 => ?_)
  · skip
    refine wc_skip ?_
    refine wq_then_norm (hK5 ?_)
    refine wc_seq ?_; intro K7 hK7
    refine wc_block ?_
    refine wc_seq ?_; intro K8 hK8
    have hT := Kdf.T_le ks is j
    refine wc_region ?_
    refine wl_y (y_assign rfl) rfl ?_
    refine wl_nil ?_
    refine wq_then_norm (hK8 ?_)
    refine wc_seq ?_; intro K9 hK9
    refine wc_seq ?_; intro K10 hK10
    refine wc_region ?_
    refine wl_y (y_move rfl) rfl ?_
    refine wl_y (y_gtr rfl rfl) rfl ?_
    refine wl_nil ?_
    refine wq_then_norm (hK10 ?_)
    refine wc_dec rfl (fun hc2 => ?_) (fun hc2 => ?_)
    · skip
      obtain ⟨j', hj'⟩ : ∃ j', j = j' + 1 := ⟨j - 1, by omega⟩
      obtain ⟨g, v, rfl, hv, hcell, _⟩ := R.get (i := j') (by omega)
      obtain ⟨D, q, r, hvD, HD, hDj, _⟩ := HP.2 j' (by rw [Ts_length]; omega)
      rw [hv] at hvD
      injection hvD with hvD
      subst hvD
      rw [Ts_get ks is j j' (by omega), ← hj'] at HD
      have hTl := HD.1
      refine wc_region ?_
      refine wl_y (y_move rfl) rfl ?_
      refine wl_y (y_move rfl) rfl ?_
      refine wl_y (y_move rfl) rfl ?_
      refine wl_y (y_sub rfl rfl (i64_ok (by omega) (by omega))) rfl ?_
      refine wl_y (y_ixs1 rfl rfl Try.underlying79 (by kernel_rfl) (j := j') (by omega) (by omega)) rfl ?_
      refine wl_y (y_load1 rfl Try.underlying22 rfl hcell) rfl ?_
      refine wl_ef (ef_app0 rfl rfl eltB (Row.empty _ wr.heap.size _) HD.2 (by rw [List.length_map, HD.1]) (by intro u hu; exact bv_one u hu) (by omega) (by omega) (Nat.le_refl _)) rfl ?_
      rintro _ w7 ⟨A9, c9, rfl, R9, be, gr, hl⟩
      have x7 : Ext wr w7 := be
      refine wl_y (y_assign rfl) rfl ?_
      refine wl_nil ?_
      refine wq_then_norm (hK9 ?_)
      refine wc_seq ?_; intro K11 hK11
      refine wc_region ?_
      have hs7 := x7.size
      refine wl_y (y_move rfl) rfl ?_
      refine wl_y (y_move rfl) rfl ?_
      refine wl_ef (ef_app rfl rfl eltB R9 (HB.wk (F.ext x7)).2 (by rw [List.length_map, HB.1]) (by intro u hu; exact bv_one u hu) (by omega) (by omega) hs7) rfl ?_
      rintro _ w8 ⟨A10, c10, rfl, R10, be, gr, hl⟩
      have x8 : Ext wr w8 := x7.trans be; have R11 := R10.cat
      refine wl_y (y_move rfl) rfl ?_
      refine wl_y (y_add rfl rfl (i64_ok (by omega) (by omega))) rfl ?_
      refine wl_y (y_conv rfl Try.underlying3 Try.underlying5 (u8_is (x := j + 1) (by omega))) rfl ?_
      refine wl_ef (ef_lit (z := .int .u8 0) Try.underlying22 (by kernel_rfl) rfl rfl rfl rfl rfl) rfl ?_
      rintro _ w9 ⟨g9, rfl, B9, hg9, ex⟩
      have x9 := x8.ext ex; have R12 := R11.ext ex; have hs9 := x9.size
      refine wl_ef (ef_app rfl rfl eltB R12 (At.blk (vs := [UInt8.ofNat (j + 1)].map bv) (B9.congr rfl)) rfl (by intro u hu; exact bv_one u hu) (by omega) (by omega) hs9) rfl ?_
      rintro _ w10 ⟨A13, c13, rfl, R13, be, gr, hl⟩
      have x10 : Ext wr w10 := x9.trans be; have H13 := R13.cat.bs
      refine wl_y (y_assign rfl) rfl ?_
      refine wl_nil ?_
      refine wq_then_norm (hK11 ?_)
      refine wc_region ?_
      refine wl_y (y_move rfl) rfl ?_
      refine wl_y (y_move rfl) rfl ?_
      refine wl_y (y_move rfl) rfl ?_
      refine wl_call Try.func51 rfl rfl rfl (ref04_any A _ n c _ c13 ks _ _ (HA.wk (F.ext x10)) hn H13 (by omega)) rfl ?_
      rintro e w11 ⟨A14, c14, rfl, R14, ex⟩
      refine ⟨_, rfl, ?_⟩
      have x11 := x10.ext ex; have hw10 := x10.size; have R15 := R.ext x11; have hdj := dj_row (R.ext x10) R14 (Nat.le_refl _)
      refine wl_ef (ef_lit (z := .slice none 0 0) Try.underlying79 (by kernel_rfl) rfl rfl rfl rfl rfl) rfl ?_
      rintro _ w12 ⟨g12, rfl, B12, hg12, ex⟩
      have x12 := x11.ext ex; have F12 := F.ext x12; have hs12 := F12.size; have R16 := R15.ext ex; have P16 := ((HP.ext x12).snoc (c := c14) (R14.ext ex).bs hdj (R14.ext ex).blk_lt)
      refine wl_ef (ef_app rfl rfl eltS R16 (At.blk B12) rfl (by intro u hu; simp at hu; subst hu; rfl) (by omega) (by omega) hs12) rfl ?_
      rintro _ w13 ⟨A17, c17, rfl, R17, be, gr, hl⟩
      have F13 := F12.trans be; have P17 := P16.app gr hl R16.none_s; rw [show Mac.tag ks (Kdf.T ks is j ++ is ++ [UInt8.ofNat (j + 1)]) = Kdf.T ks is (j + 1) from rfl, ← Ts_succ] at P17
      refine wl_y (y_assign rfl) rfl ?_
      refine wl_nil ?_
      refine wq_blk_norm ?_
      refine wq_then_norm (hK7 ?_)
      refine wc_region ?_
      refine wl_y (y_move rfl) rfl ?_
      refine wl_y (y_add rfl rfl (i64_ok (by omega) (by omega))) rfl ?_
      refine wl_y (y_assign rfl) rfl ?_
      refine wl_nil ?_
      refine wq_then_norm ?_
      refine hL1 _ _ ⟨j + 1, c17, A17, _, rfl, rfl, by omega, F13, R17, P17⟩ (by omega) ⟨rfl, rfl, (by first | rfl | exact congrArg some (int_val (by omega))), rfl, (by first | rfl | exact congrArg some (int_val (by omega))), trivial⟩
    · skip
      refine wc_skip ?_
      refine wq_then_norm (hK9 ?_)
      refine wc_seq ?_; intro K12 hK12
      have x7 := Ext.refl wr; have R9 : Row wr wr.heap.size 5 none 0 0 ((Kdf.T ks is j).map bv) := by
        obtain rfl : j = 0 := by omega
        exact Row.empty _ _ _
      refine wc_region ?_
      have hs7 := x7.size
      refine wl_y (y_move rfl) rfl ?_
      refine wl_y (y_move rfl) rfl ?_
      refine wl_ef (ef_app rfl rfl eltB R9 (HB.wk (F.ext x7)).2 (by rw [List.length_map, HB.1]) (by intro u hu; exact bv_one u hu) (by omega) (by omega) hs7) rfl ?_
      rintro _ w8 ⟨A10, c10, rfl, R10, be, gr, hl⟩
      have x8 : Ext wr w8 := x7.trans be; have R11 := R10.cat
      refine wl_y (y_move rfl) rfl ?_
      refine wl_y (y_add rfl rfl (i64_ok (by omega) (by omega))) rfl ?_
      refine wl_y (y_conv rfl Try.underlying3 Try.underlying5 (u8_is (x := j + 1) (by omega))) rfl ?_
      refine wl_ef (ef_lit (z := .int .u8 0) Try.underlying22 (by kernel_rfl) rfl rfl rfl rfl rfl) rfl ?_
      rintro _ w9 ⟨g9, rfl, B9, hg9, ex⟩
      have x9 := x8.ext ex; have R12 := R11.ext ex; have hs9 := x9.size
      refine wl_ef (ef_app rfl rfl eltB R12 (At.blk (vs := [UInt8.ofNat (j + 1)].map bv) (B9.congr rfl)) rfl (by intro u hu; exact bv_one u hu) (by omega) (by omega) hs9) rfl ?_
      rintro _ w10 ⟨A13, c13, rfl, R13, be, gr, hl⟩
      have x10 : Ext wr w10 := x9.trans be; have H13 := R13.cat.bs
      refine wl_y (y_assign rfl) rfl ?_
      refine wl_nil ?_
      refine wq_then_norm (hK12 ?_)
      refine wc_region ?_
      refine wl_y (y_move rfl) rfl ?_
      refine wl_y (y_move rfl) rfl ?_
      refine wl_y (y_move rfl) rfl ?_
      refine wl_call Try.func51 rfl rfl rfl (ref04_any A _ n c _ c13 ks _ _ (HA.wk (F.ext x10)) hn H13 (by omega)) rfl ?_
      rintro e w11 ⟨A14, c14, rfl, R14, ex⟩
      refine ⟨_, rfl, ?_⟩
      have x11 := x10.ext ex; have hw10 := x10.size; have R15 := R.ext x11; have hdj := dj_row (R.ext x10) R14 (Nat.le_refl _)
      refine wl_ef (ef_lit (z := .slice none 0 0) Try.underlying79 (by kernel_rfl) rfl rfl rfl rfl rfl) rfl ?_
      rintro _ w12 ⟨g12, rfl, B12, hg12, ex⟩
      have x12 := x11.ext ex; have F12 := F.ext x12; have hs12 := F12.size; have R16 := R15.ext ex; have P16 := ((HP.ext x12).snoc (c := c14) (R14.ext ex).bs hdj (R14.ext ex).blk_lt)
      refine wl_ef (ef_app rfl rfl eltS R16 (At.blk B12) rfl (by intro u hu; simp at hu; subst hu; rfl) (by omega) (by omega) hs12) rfl ?_
      rintro _ w13 ⟨A17, c17, rfl, R17, be, gr, hl⟩
      have F13 := F12.trans be; have P17 := P16.app gr hl R16.none_s; rw [show Mac.tag ks (Kdf.T ks is j ++ is ++ [UInt8.ofNat (j + 1)]) = Kdf.T ks is (j + 1) from rfl, ← Ts_succ] at P17
      refine wl_y (y_assign rfl) rfl ?_
      refine wl_nil ?_
      refine wq_blk_norm ?_
      refine wq_then_norm (hK7 ?_)
      refine wc_region ?_
      refine wl_y (y_move rfl) rfl ?_
      refine wl_y (y_add rfl rfl (i64_ok (by omega) (by omega))) rfl ?_
      refine wl_y (y_assign rfl) rfl ?_
      refine wl_nil ?_
      refine wq_then_norm ?_
      refine hL1 _ _ ⟨j + 1, c17, A17, _, rfl, rfl, by omega, F13, R17, P17⟩ (by omega) ⟨rfl, rfl, (by first | rfl | exact congrArg some (int_val (by omega))), rfl, (by first | rfl | exact congrArg some (int_val (by omega))), trivial⟩
  · skip
    refine wc_exit ?_
    refine wq_then_exit ?_
    refine wq_then_exit ?_
    refine wq_blk_hit ?_
    refine wq_then_norm (hK3 ?_)
    refine wc_seq ?_; intro K13 hK13
    obtain ⟨q, hq⟩ : ∃ q, q = (k + 31) / 32 := ⟨_, rfl⟩
    obtain rfl : j = q := by omega
    refine wc_region ?_
    refine wl_y (y_assign rfl) rfl ?_
    refine wl_nil ?_
    refine wq_then_norm (hK13 ?_)
    refine wc_seq ?_; intro K14 hK14
    refine wc_seq ?_; intro K15 hK15
    refine wc_region ?_
    refine wl_y (y_assign rfl) rfl ?_
    refine wl_nil ?_
    refine wq_then_norm (hK15 ?_)
    refine wc_block ?_
    refine wc_loop (fun n' L ws => ∃ (i c10 : Nat) (A10 : Option Addr), L = [(2, .int .i64 (k : Int)), (7, .slice A7 j c7), (10, .slice A10 (32 * i) c10), (11, .int .i64 (i : Int))] ∧ n' = j - i ∧ (i ≤ j ∧ Ext wr ws ∧ Row ws wr.heap.size 5 A10 (32 * i) c10 ((Kdf.okm ks is i).map bv))) _ _ ⟨0, 0, none, rfl, rfl, by omega, Ext.refl _, Row.empty _ _ _⟩ ⟨(by first | rfl | exact congrArg some (int_val (by omega))), rfl, rfl, (by first | rfl | exact congrArg some (int_val (by omega))), trivial⟩ ?_
    rintro KL2 n' L ws ⟨i, c10, A10, rfl, rfl, hi, G, S⟩ hL2
    refine wc_seq ?_; intro K16 hK16
    refine wc_seq ?_; intro K17 hK17
    refine wc_region ?_
    refine wl_y (y_move rfl) rfl ?_
    refine wl_y (y_move rfl) rfl ?_
    refine wl_y (y_len_slice rfl Try.underlying79) rfl ?_
    refine wl_y (y_lss rfl rfl) rfl ?_
    refine wl_nil ?_
    refine wq_then_norm (hK17 ?_)
    refine wc_dec rfl (fun hc3 => ?_) (fun hc3 => ?_)
    · skip
      refine wc_skip ?_
      refine wq_then_norm (hK16 ?_)
      refine wc_seq ?_; intro K18 hK18
      refine wc_block ?_
      obtain ⟨g, v, rfl, hv, hcell, _⟩ := (R.ext G).get (i := i) (by omega)
      obtain ⟨D, q, r, hvD, HD, hDj, _⟩ := (HP.ext G).2 i (by rw [Ts_length]; omega)
      rw [hv] at hvD
      injection hvD with hvD
      subst hvD
      rw [Ts_get ks is j i (by omega)] at HD
      have hTl := HD.1
      rw [Kdf.T_length] at hTl
      have hsG := G.size
      refine wc_region ?_
      refine wl_y (y_move rfl) rfl ?_
      refine wl_y (y_move rfl) rfl ?_
      refine wl_y (y_move rfl) rfl ?_
      refine wl_y (y_ixs1 rfl rfl Try.underlying79 (by kernel_rfl) (j := i) rfl (by omega)) rfl ?_
      refine wl_y (y_load1 rfl Try.underlying22 rfl hcell) rfl ?_
      refine wl_ef (ef_app rfl rfl eltB S HD.2 (by rw [List.length_map, HD.1]) (by intro u hu; exact bv_one u hu) (by omega) (by omega) hsG) rfl ?_
      rintro _ w20 ⟨A20, c20, rfl, R20, be, gr, hl⟩
      have G20 : Ext wr w20 := G.trans be; have R21 := R20.cat; rw [show Kdf.okm ks is i ++ Kdf.T ks is (i + 1) = Kdf.okm ks is (i + 1) from rfl, ← hTl] at R21
      refine wl_y (y_assign rfl) rfl ?_
      refine wl_nil ?_
      refine wq_blk_norm ?_
      refine wq_then_norm (hK18 ?_)
      refine wc_region ?_
      refine wl_y (y_move rfl) rfl ?_
      refine wl_y (y_add rfl rfl (i64_ok (by omega) (by omega))) rfl ?_
      refine wl_y (y_assign rfl) rfl ?_
      refine wl_nil ?_
      refine wq_then_norm ?_
      have hq32 : q = 32 := by omega
      subst hq32
      refine hL2 _ _ ⟨i + 1, c20, A20, rfl, rfl, by omega, G20, R21⟩ (by omega) ⟨(by first | rfl | exact congrArg some (int_val (by omega))), rfl, rfl, (by first | rfl | exact congrArg some (int_val (by omega))), trivial⟩
    · skip
      refine wc_exit ?_
      refine wq_then_exit ?_
      refine wq_then_exit ?_
      refine wq_blk_hit ?_
      refine wq_then_norm (hK14 ?_)
      refine wc_seq ?_; intro K19 hK19
      refine wc_region ?_
      refine wl_y (y_move rfl) rfl ?_
      refine wl_y (y_move rfl) rfl ?_
      refine wl_y (y_cuth (s := 1) rfl rfl Try.underlying22 (by kernel_rfl) (j := k) rfl (by have := S.cap; omega)) rfl ?_
      refine wl_y (y_assign rfl) rfl ?_
      refine wl_nil ?_
      refine wq_then_norm (hK19 ?_)
      refine wc_ret ?_
      refine hret rfl ?_
      exact ⟨A10, c10, rfl, by have := S.bs.take (k := k) (by omega); rw [Kdf.expand_of _ _ _ _ (by omega)] at this; exact this, F.ext G⟩
end Go.Proofs.Ytjllhimhiekchaa
