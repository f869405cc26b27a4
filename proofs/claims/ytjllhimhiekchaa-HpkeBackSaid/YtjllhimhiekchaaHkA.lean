/- hpke: rows of strings, extract and expand with labels. No conditions: contracts of the program's functions. -/
import Derived.Test.YtjllhimhiekchaaWireA
import Derived.Test.YtjllhimhiekchaaMacA
import Derived.Test.YtjllhimhiekchaaFieldQ
import Derived.Test.YtjllhimhiekchaaAeA
import Derived.Lib.AppendStr
/- The reference's lengths and vectors; kdf's and the reference's Expand, Label, Secret, Ref: what each hands back. Lengths up to 2^20. -/
namespace Go.Proofs.Ytjllhimhiekchaa
open Go.RowKit
attribute [local irreducible] Y Ef WL WC WK WQ WM OpM
theorem dj_new {w : World} {base g : Nat} {e : TypeId} {A : Option Addr} {n c : Nat} {xs : List Value} (h : Row w base e A n c xs) (hg : w.heap.size ≤ g) : Dj A (some ⟨g, 0, none⟩) := fun b o b' o' h1 h2 => by
  subst h1
  injection h2 with h2
  injection h2 with h2 _ _
  have := (Row.lt h).2
  omega
theorem expand_any (A B : Option Addr) (n c m d k : Nat) (ks is : List UInt8) (w : World) (HA : Bs w A n ks) (hn : n ≤ 35184372088832) (HB : Bs w B m is) (hm : m ≤ 35184372087000) (hk : k ≤ 8160) :
    Calls Try.prog 46 #[.slice A n c, .slice B m d, .int .i64 (k : Int)] w fun e w' => ∃ A' c', e = .returned (.tuple #[.slice A' k c', .int .u8 0]) ∧ Bs w' A' k (Kdf.expand ks is k) ∧ k ≤ c' ∧ Ext w w' := by
  refine vc_enter2 36 Try.func46 rfl rfl rfl rfl ?_
  intro Q hret
  refine wc_seq ?_; intro K1 hK1
  refine wc_region ?_
  refine wl_y (y_assign rfl) rfl ?_
  refine wl_y (y_assign rfl) rfl ?_
  refine wl_nil ?_
  refine wq_then_norm (hK1 ?_)
  refine wc_scope2 0 (fun n' L wr => ∃ (j c8 m9 c9 : Nat) (A8 A9 : Option Addr), L = [(0, .slice A n c), (1, .slice B m d), (2, .int .i64 (k : Int)), (8, .slice A8 (32 * j) c8), (9, .slice A9 m9 c9), (10, .int .u8 (j : Int))] ∧ n' = 256 - j ∧ (j ≤ 255 ∧ Ext w wr ∧ Row wr w.heap.size 5 A8 (32 * j) c8 ((Kdf.okm ks is j).map bv) ∧ Bs wr A9 m9 (Kdf.T ks is j))) rfl ?_ ?_
  · rintro G n' L wr ⟨j, c8, m9, c9, A8, A9, rfl, rfl, hj, F, R, H9⟩ hG0
    refine wc_seq ?_; intro K2 hK2
    refine wc_seq ?_; intro K3 hK3
    refine wc_region ?_
    refine wl_y (y_move rfl) rfl ?_
    refine wl_y (y_len_slice rfl Try.underlying22) rfl ?_
    refine wl_y (y_move rfl) rfl ?_
    refine wl_y (y_lss rfl rfl) rfl ?_
    refine wl_nil ?_
    refine wq_then_norm (hK3 ?_)
    refine wc_dec rfl (fun hc2 => ?_) (fun hc2 => ?_)
    · skip
      refine wc_seq ?_; intro K4 hK4
      have hcnt : (UInt8.ofNat (j + 1)).toNat = j + 1 := by rw [UInt8.toNat_ofNat']; omega
      have hT := Kdf.T_le ks is j
      refine wc_region ?_
      refine wl_y (y_move rfl) rfl ?_
      refine wl_y (y_add rfl rfl (u8_is (x := j + 1) (by omega))) rfl ?_
      refine wl_y (y_assign rfl) rfl ?_
      refine wl_nil ?_
      refine wq_then_norm (hK4 ?_)
      refine wc_seq ?_; intro K5 hK5
      refine wc_region ?_
      refine wl_y (y_move rfl) rfl ?_
      refine wl_y (y_move rfl) rfl ?_
      refine wl_y (y_move rfl) rfl ?_
      refine wl_y (y_move rfl) rfl ?_
      refine wl_ef (ef_lit (z := .int .u8 0) Try.underlying22 (by kernel_rfl) rfl rfl rfl rfl rfl) rfl ?_
      rintro _ w4 ⟨g4, rfl, B4, hg4, ex⟩
      have F4 := F.ext ex; have H4 : Bs w4 (some ⟨g4, 0, none⟩) 1 [UInt8.ofNat (j + 1)] := bs_blk' (xs := [UInt8.ofNat (j + 1)]) (B4.congr rfl) rfl; have H9a := H9.ext ex; have Ra := R.ext ex
      refine wl_ef (ef_lit (z := .slice none 0 0) Try.underlying79 (by kernel_rfl) rfl rfl rfl rfl rfl) rfl ?_
      rintro _ w5 ⟨g5, rfl, B5, hg5, ex⟩
      have F5 := F4.ext ex; have S5 := bss_three B5 (H9a.ext ex) (HB.wk F5) (H4.ext ex); have Rb := Ra.ext ex
      refine wl_call Try.func69 rfl rfl rfl (tag_any A _ n c 3 3 ks _ _ (HA.wk F5) hn S5 (by omega) (by simp [HB.1]; omega)) rfl ?_
      rintro e w6 ⟨g6, rfl, hg6, B6, ex⟩
      refine ⟨_, rfl, ?_⟩
      have F6 := F5.ext ex; have H6 := bs_blk' B6 (Mac.tag_length _ _); have hdj := dj_new Rb hg6; have Rc := Rb.ext ex; have hs6 := F6.size
      refine wl_y (y_assign rfl) rfl ?_
      refine wl_nil ?_
      refine wq_then_norm (hK5 ?_)
      refine wc_seq ?_; intro K6 hK6
      refine wc_region ?_
      refine wl_y (y_move rfl) rfl ?_
      refine wl_y (y_move rfl) rfl ?_
      refine wl_ef (ef_app rfl rfl eltB Rc H6.2 (by rw [List.length_map, Mac.tag_length]) (by intro u hu; exact bv_one u hu) (by omega) (by omega) hs6) rfl ?_
      rintro _ w7 ⟨A7, c7, rfl, R7, be, gr, hl⟩
      have F7 := F6.trans be; have R8 := R7.cat; have H8 := H6.app hdj gr Rc.none_s; have hTj : Mac.tag ks [Kdf.T ks is j, is, [UInt8.ofNat (j + 1)]].flatten = Kdf.T ks is (j + 1) := by simp [Kdf.T]
      rw [hTj] at R8 H8
      refine wl_y (y_assign rfl) rfl ?_
      refine wl_nil ?_
      refine wq_then_norm (hK6 ?_)
      refine wc_goto ?_
      refine wq_then_goto ?_
      refine wq_jump_hit ?_
      refine hG0 _ _ ⟨j + 1, c7, 32, 32, A7, some ⟨g6, 0, none⟩, rfl, rfl, by omega, F7, R8, H8⟩ (by omega) ⟨rfl, rfl, (by first | rfl | exact congrArg some (int_val (by omega))), rfl, rfl, (by first | rfl | exact congrArg some (int_val (by omega))), trivial⟩
    · skip
      refine wc_skip ?_
      refine wq_then_norm (hK2 ?_)
      refine wc_seq ?_; intro K7 hK7
      refine wc_region ?_
      refine wl_y (y_move rfl) rfl ?_
      refine wl_y (y_move rfl) rfl ?_
      refine wl_y (y_cuth (s := 1) rfl rfl Try.underlying22 (by kernel_rfl) (j := k) rfl (by have := R.cap; omega)) rfl ?_
      refine wl_y (y_assign rfl) rfl ?_
      refine wl_y (y_assign rfl) rfl ?_
      refine wl_nil ?_
      refine wq_then_norm (hK7 ?_)
      refine wc_ret ?_
      refine wq_jump_ret ?_
      refine hret rfl rfl ?_
      exact ⟨A8, c8, rfl, by have := R.bs.take (k := k) (by omega); rw [Kdf.expand_of _ _ _ _ (by omega)] at this; exact this, by have := R.cap; omega, F⟩
  · intro G hG0
    refine wc_seq ?_; intro K8 hK8
    refine wc_seq ?_; intro K9 hK9
    refine wc_region ?_
    refine wl_y (y_move rfl) rfl ?_
    refine wl_y (Y.as (y_lss rfl rfl) (congrArg Value.bool (decide_eq_false (by omega)))) rfl ?_
    refine wl_y (y_move rfl) rfl ?_
    refine wl_gy 13 rfl rfl (y_move rfl) rfl ?_
    refine wl_gy 13 rfl rfl (Y.as (y_gtr rfl rfl) (congrArg Value.bool (decide_eq_false (by omega)))) rfl ?_
    refine wl_y (y_pickf rfl rfl) rfl ?_
    refine wl_nil ?_
    refine wq_then_norm (hK9 ?_)
    refine wc_false rfl rfl ?_
    refine wc_skip ?_
    refine wq_then_norm (hK8 ?_)
    refine wc_seq ?_; intro K10 hK10
    refine wc_region ?_
    refine wl_y (y_assign rfl) rfl ?_
    refine wl_y (y_assign rfl) rfl ?_
    refine wl_nil ?_
    refine wq_then_norm (hK10 ?_)
    refine wc_seq ?_; intro K11 hK11
    refine wc_region ?_
    refine wl_y (y_assign rfl) rfl ?_
    refine wl_nil ?_
    refine wq_then_norm (hK11 ?_)
    refine wc_seq ?_; intro KG0 hKG0
    refine wc_label ?_
    refine wq_then_norm (hKG0 ?_)
    exact hG0 _ _ ⟨0, 0, 0, 0, none, none, rfl, rfl, by omega, Ext.refl _, Row.empty _ _ _, Bs.nil _ none⟩ ⟨rfl, rfl, (by first | rfl | exact congrArg some (int_val (by omega))), rfl, rfl, (by first | rfl | exact congrArg some (int_val (by omega))), trivial⟩
end Go.Proofs.Ytjllhimhiekchaa

/- The reference's Expand: what it hands back. Lengths up to 2^20. -/
namespace Go.Proofs.Ytjllhimhiekchaa
open Go.RowKit
attribute [local irreducible] Y Ef WL WC WK WQ WM OpM
/-- Slices of bytes, each apart from the row at A. -/
def Parts (w : World) (A : Option Addr) (vs : List Value) (xss : List (List UInt8)) : Prop :=
  vs.length = xss.length ∧ ∀ i, i < xss.length → ∃ B m c, vs[i]? = some (.slice B m c) ∧ Bs w B m (xss.getD i []) ∧ Dj A B ∧ ∀ b o s, B = some ⟨b, o, s⟩ → b < w.heap.size
theorem Parts.nil (w : World) (A : Option Addr) : Parts w A [] [] := ⟨rfl, fun i hi => by cases hi⟩
theorem Parts.ext {w w' : World} {A : Option Addr} {vs : List Value} {xss : List (List UInt8)} (h : Parts w A vs xss) (e : Ext w w') : Parts w' A vs xss :=
  ⟨h.1, fun i hi => by
    obtain ⟨B, m, c, h1, h2, h3, h4⟩ := h.2 i hi
    exact ⟨B, m, c, h1, h2.ext e, h3, fun b o s hb => Nat.lt_of_lt_of_le (h4 b o s hb) e.size⟩⟩
theorem Parts.app {w w' : World} {A A' : Option Addr} {n c n' c' : Nat} {vs : List Value} {xss : List (List UInt8)} (h : Parts w A vs xss) (hg : w.grownBy w' (Value.slice A n c).ownBlock)
    (hl : (Value.slice A' n' c').ownBlock = (Value.slice A n c).ownBlock ∨ (Value.slice A' n' c').ownBlock = some w.heap.size) (hA : ∀ b o s, A = some ⟨b, o, s⟩ → s = none) : Parts w' A' vs xss :=
  ⟨h.1, fun i hi => by
    obtain ⟨B, m, k, h1, h2, h3, h4⟩ := h.2 i hi
    refine ⟨B, m, k, h1, h2.app h3 hg hA, ?_, fun b o s hb => Nat.lt_of_lt_of_le (h4 b o s hb) hg.size⟩
    intro b o b' o' e1 e2 hbb
    subst e1; subst e2; subst hbb
    have hlt := h4 b o' none rfl
    rcases hl with hl | hl
    · cases A with
      | none => simp [Value.ownBlock] at hl
      | some a =>
        obtain ⟨b2, o2, s⟩ := a
        have := hA b2 o2 s rfl
        subst this
        simp only [Value.ownBlock, Option.some.injEq] at hl
        exact h3 b2 o2 b o' rfl rfl hl.symm
    · simp only [Value.ownBlock, Option.some.injEq] at hl
      omega⟩
end Go.Proofs.Ytjllhimhiekchaa

/- kdf's and the reference's Label, Secret, Extract, Ref: what each hands back; the chapter's example. Lengths up to 2^20. -/
namespace Go.Proofs.Ytjllhimhiekchaa
open Go.RowKit
attribute [local irreducible] Y Ef WL WC WK WQ WM OpM
theorem extract_any (A B : Option Addr) (n c m d : Nat) (xs ys : List UInt8) (w : World) (HA : Bs w A n xs) (hn : n ≤ 35184372088832) (HB : Bs w B m ys) (hm : m ≤ 35184372088000) :
    Calls Try.prog 48 #[.slice A n c, .slice B m d] w fun e w' => ∃ A' c', e = .returned (.slice A' 32 c') ∧ Bs w' A' 32 (Mac.tag xs ys) ∧ Ext w w' := by
  have E := Ext.refl w
  refine vc_enter1 9 Try.func48 rfl rfl rfl rfl ?_
  intro Q hret
  refine wc_seq ?_; intro K1 hK1
  refine wc_region ?_
  refine wl_y (y_assign rfl) rfl ?_
  refine wl_nil ?_
  refine wq_then_norm (hK1 ?_)
  refine wc_seq ?_; intro K2 hK2
  refine wc_region ?_
  refine wl_y (y_move rfl) rfl ?_
  refine wl_y (y_move rfl) rfl ?_
  refine wl_ef (ef_lit (z := .slice none 0 0) Try.underlying79 (by kernel_rfl) rfl rfl rfl rfl rfl) rfl ?_
  rintro _ w1 ⟨g1, rfl, B1, hg1, ex⟩
  replace HA := HA.ext ex
  replace HB := HB.ext ex
  replace E := E.ext ex
  have S1 := bss_one B1 HB
  refine wl_call Try.func69 rfl rfl rfl (tag_any A _ n c 1 1 xs _ _ HA hn S1 (by omega) (by simp [HB.1]; omega)) rfl ?_
  rintro e w2 ⟨g2, rfl, hg2, B2, ex⟩
  refine ⟨_, rfl, ?_⟩
  replace HA := HA.ext ex
  replace HB := HB.ext ex
  replace E := E.ext ex
  have H2 := bs_blk' B2 (Mac.tag_length _ _)
  refine wl_y (y_assign rfl) rfl ?_
  refine wl_nil ?_
  refine wq_then_norm (hK2 ?_)
  refine wc_ret ?_
  refine hret rfl ?_
  exact ⟨_, _, rfl, by simpa using H2, E⟩
end Go.Proofs.Ytjllhimhiekchaa

namespace Go.Proofs.Ytjllhimhiekchaa
open Go.RowKit
section
open Go.Lib
variable {P : Program} {L : List (Nat × Value)} {w : World} {ty t u e : TypeId} {x y : Operand}
/-- 'append(b, s...)', s a string. -/
theorem ef_appStr {A : Option Addr} {n c base : Nat} {xs : List Value} {s : ByteArray} (hx : ev L x = some (.slice A n c)) (hy : ev L y = some (.string s)) (ht : P.underlying t = some (.slice e)) (hu : P.underlying u = some .string) (hi : (P.info? e).map (fun i => (i.zero, i.size, i.bytes)) = some (some (.int .u8 0), 1, 1)) (hown : Row w base e A n c xs) (hl : n + s.size ≤ 1000000) (hbase : base ≤ w.heap.size) :
    Ef P L w (.call { callee := .builtin .append, args := #[x, y], argTypes := #[t, u] }) ty fun v w' => ∃ A' c', v = .slice A' (n + s.size) c' ∧ Row w' base e A' (n + s.size) c' (xs ++ s.data.toList.map bv) ∧ Below base w w' := Ef.run fun ρ hρ => by
  cases hq : P.info? e with
  | none => rw [hq] at hi; cases hi
  | some i =>
    rw [hq] at hi
    simp only [Option.map_some, Option.some.injEq, Prod.mk.injEq] at hi
    obtain ⟨h1, h2, h3⟩ := hi
    obtain ⟨v', w', hrun, h4, h5, _⟩ := run_append_own_string (P := P) w base t u ty e i ht hu hq h1 h2 h3 _ n xs hown s (by unfold maxLen; omega) (by omega) hbase
    obtain ⟨A', c', rfl⟩ := own_shape h4
    exact ⟨_, w', ⟨A', c', rfl, h4, (Below.refl base w).grown h5 hbase fun k hk => (World.ownsRow.lt hown k hk).1⟩, fun _ _ _ _ => by simp [execOp, resolve, invoke, builtin, hρ _ _ hx, hρ _ _ hy, hrun]⟩
end
attribute [local irreducible] Y Ef WL WC WK WQ WM OpM
namespace Hk
def sb (s : ByteArray) : List UInt8 := s.data.toList
theorem sb_len (s : ByteArray) : (sb s).length = s.size := by unfold sb; rw [Array.length_toList]; rfl
def cat (ss : List ByteArray) : List UInt8 := ss.flatMap sb
theorem cat_cons (s : ByteArray) (ss : List ByteArray) : cat (s :: ss) = sb s ++ cat ss := rfl
theorem cat_take {ss : List ByteArray} {i : Nat} (h : i < ss.length) : cat (ss.take (i + 1)) = cat (ss.take i) ++ sb ss[i] := by
  rw [List.take_succ_eq_append_getElem h]; unfold cat; rw [List.flatMap_append]; simp
theorem cat_le {ss : List ByteArray} {i : Nat} (h : i < ss.length) : (cat (ss.take i)).length + ss[i].size ≤ (cat ss).length := by
  have h1 : cat ss = cat (ss.take (i + 1)) ++ cat (ss.drop (i + 1)) := by
    unfold cat; rw [← List.flatMap_append, List.take_append_drop]
  rw [h1, cat_take h, List.length_append, List.length_append, sb_len]; omega
theorem sb_strB (xs : List UInt8) : sb (strB xs) = xs := rfl
def ver : ByteArray := ⟨#[72, 80, 75, 69, 45, 118, 49]⟩
def ext (nm : ByteArray) (xs : List UInt8) (lb : ByteArray) (ys : List UInt8) : List UInt8 := Mac.tag xs (cat [ver, nm, lb, strB ys])
def exp (nm : ByteArray) (xs : List UInt8) (lb : ByteArray) (is : List UInt8) (k : Nat) : List UInt8 := Kdf.expand xs (cat [strB (Wire.be 2 k), ver, nm, lb, strB is]) k
end Hk
open Hk
theorem hrow_any {g : Nat} {t : TypeId} (ss : List ByteArray) (k : Nat) (w : World) (B : Blk w g t (ss.map Value.string).toArray) (hk : ss.length = k) (hk2 : k ≤ 100) (hs : (cat ss).length ≤ 100000) :
    Calls Try.prog 47 #[.slice (some ⟨g, 0, none⟩) k k] w fun e w' => ∃ A' m c', e = .returned (.slice A' m c') ∧ Row w' w.heap.size 5 A' m c' ((cat ss).map bv) ∧ Ext w w' := by
  refine vc_enter1 17 Try.func47 rfl rfl rfl rfl ?_
  intro Q hret
  refine wc_seq ?_; intro K1 hK1
  refine wc_region ?_
  refine wl_y (y_assign rfl) rfl ?_
  refine wl_nil ?_
  refine wq_then_norm (hK1 ?_)
  refine wc_seq ?_; intro K2 hK2
  refine wc_region ?_
  refine wl_y (y_assign rfl) rfl ?_
  refine wl_nil ?_
  refine wq_then_norm (hK2 ?_)
  refine wc_seq ?_; intro K3 hK3
  refine wc_seq ?_; intro K4 hK4
  refine wc_region ?_
  refine wl_y (y_move rfl) rfl ?_
  refine wl_y (y_len_slice rfl Try.underlying89) rfl ?_
  refine wl_y (y_move rfl) rfl ?_
  refine wl_nil ?_
  refine wq_then_norm (hK4 ?_)
  refine wc_block ?_
  refine wc_loop (fun n' L wr => ∃ (i m c5 : Nat) (A5 : Option Addr), L = [(3, .slice A5 m c5), (6, .slice (some ⟨g, 0, none⟩) k k), (7, .int .i64 (k : Int)), (8, .int .i64 (i : Int))] ∧ n' = k - i ∧ (i ≤ k ∧ Ext w wr ∧ Row wr w.heap.size 5 A5 m c5 ((cat (ss.take i)).map bv))) _ _ ⟨0, 0, 0, none, rfl, rfl, Nat.zero_le _, Ext.refl _, Row.empty _ _ _⟩ ⟨rfl, rfl, (by first | rfl | exact congrArg some (int_val (by omega))), (by first | rfl | exact congrArg some (int_val (by omega))), trivial⟩ ?_
  rintro KL1 n' L wr ⟨i, m, c5, A5, rfl, rfl, hi, F, R⟩ hL1
  refine wc_seq ?_; intro K5 hK5
  refine wc_region ?_
  refine wl_y (y_lss rfl rfl) rfl ?_
  refine wl_nil ?_
  refine wq_then_norm (hK5 ?_)
  refine wc_seq ?_; intro K6 hK6
  refine wc_dec rfl (fun hc1 => ?_) (fun hc1 => ?_)
  · skip
    refine wc_skip ?_
    refine wq_then_norm (hK6 ?_)
    refine wc_seq ?_; intro K7 hK7
    refine wc_block ?_
    refine wc_seq ?_; intro K8 hK8
    have hik : i < ss.length := by omega
    have hm : m = (cat (ss.take i)).length := by have := R.len; simpa using this.symm
    have hle := cat_le hik
    have hcell : wr.cell? ⟨g, 0 + i, none⟩ = some (.string ss[i]) := by
      rw [Nat.zero_add]
      exact (B.ext F).get (by simp [hik])
    refine wc_region ?_
    refine wl_y (y_ixs1 rfl rfl Try.underlying89 (by kernel_rfl) (j := i) (by omega) (by omega)) rfl ?_
    refine wl_y (y_load1 rfl Try.underlying9 rfl hcell) rfl ?_
    refine wl_y (y_assign rfl) rfl ?_
    refine wl_nil ?_
    refine wq_then_norm (hK8 ?_)
    refine wc_region ?_
    refine wl_y (y_move rfl) rfl ?_
    refine wl_y (y_move rfl) rfl ?_
    refine wl_ef (ef_appStr rfl rfl Try.underlying22 Try.underlying9 (by kernel_rfl) R (by omega) F.size) rfl ?_
    rintro _ w6 ⟨A6, c6, rfl, R6, be⟩
    have F6 := F.trans be; rw [← List.map_append] at R6
    refine wl_y (y_assign rfl) rfl ?_
    refine wl_nil ?_
    refine wq_blk_norm ?_
    refine wq_then_norm (hK7 ?_)
    refine wc_region ?_
    refine wl_y (y_add rfl rfl (i64_ok (by omega) (by omega))) rfl ?_
    refine wl_y (y_move rfl) rfl ?_
    refine wl_nil ?_
    refine wq_then_norm ?_
    refine hL1 _ _ ⟨i + 1, _, c6, A6, rfl, rfl, by omega, F6, by rw [cat_take hik]; exact R6⟩ (by omega) ⟨rfl, rfl, (by first | rfl | exact congrArg some (int_val (by omega))), (by first | rfl | exact congrArg some (int_val (by omega))), trivial⟩
  · skip
    refine wc_exit ?_
    refine wq_then_exit ?_
    refine wq_then_exit ?_
    refine wq_blk_hit ?_
    refine wq_then_norm (hK3 ?_)
    refine wc_seq ?_; intro K9 hK9
    refine wc_region ?_
    refine wl_y (y_move rfl) rfl ?_
    refine wl_y (y_assign rfl) rfl ?_
    refine wl_nil ?_
    refine wq_then_norm (hK9 ?_)
    refine wc_ret ?_
    refine hret rfl ?_
    obtain rfl : i = k := by omega
    rw [List.take_of_length_le (by omega)] at R
    exact ⟨A5, m, c5, rfl, R, F⟩
theorem hextract_any (nm lb : ByteArray) (A B : Option Addr) (n c m d : Nat) (xs ys : List UInt8) (w : World) (HA : Bs w A n xs) (hn : n ≤ 100000) (HB : Bs w B m ys) (hm : m ≤ 10000) (h1 : nm.size ≤ 100) (h2 : lb.size ≤ 100) :
    Calls Try.prog 27 #[.string nm, .slice A n c, .string lb, .slice B m d] w fun e w' => ∃ A' c', e = .returned (.slice A' 32 c') ∧ Bs w' A' 32 (Hk.ext nm xs lb ys) ∧ Ext w w' := by
  have E := Ext.refl w
  have hyl := HB.1
  have hl : (cat [ver, nm, lb, strB ys]).length ≤ 11000 := by
    simp only [cat_cons, List.length_append, sb_len nm, sb_len lb, sb_strB, show (sb ver).length = 7 from rfl, show (cat []).length = 0 from rfl]; omega
  refine vc_enter1 17 Try.func27 rfl rfl rfl rfl ?_
  intro Q hret
  refine wc_seq ?_; intro K1 hK1
  refine wc_region ?_
  refine wl_y (y_assign rfl) rfl ?_
  refine wl_nil ?_
  refine wq_then_norm (hK1 ?_)
  refine wc_seq ?_; intro K2 hK2
  refine wc_region ?_
  refine wl_y (y_move rfl) rfl ?_
  refine wl_y (y_move rfl) rfl ?_
  refine wl_y (y_move rfl) rfl ?_
  refine wl_y (y_move rfl) rfl ?_
  refine wl_y (y_ofBytes rfl HB Try.underlying22 Try.underlying5 Try.underlying9) rfl ?_
  refine wl_ef (ef_lit (z := .string ⟨#[]⟩) Try.underlying89 (by kernel_rfl) rfl rfl rfl rfl rfl) rfl ?_
  rintro _ w1 ⟨g1, rfl, B1, hg1, ex⟩
  replace HA := HA.ext ex
  replace HB := HB.ext ex
  replace E := E.ext ex
  skip
  refine wl_call Try.func47 rfl rfl rfl (hrow_any [ver, nm, lb, strB ys] 4 _ B1 rfl (by omega) (by omega)) rfl ?_
  rintro e w2 ⟨A2, m2, c2, rfl, R2, ex⟩
  refine ⟨_, rfl, ?_⟩
  replace HA := HA.ext ex
  replace HB := HB.ext ex
  replace E := E.ext ex
  have H2 := R2.bs; have hm2 := H2.1
  refine wl_call Try.func48 rfl rfl rfl (extract_any A A2 n c m2 c2 xs _ _ HA (by omega) H2 (by omega)) rfl ?_
  rintro e w3 ⟨A3, c3, rfl, H3, ex⟩
  refine ⟨_, rfl, ?_⟩
  replace HA := HA.ext ex
  replace HB := HB.ext ex
  replace E := E.ext ex
  skip
  refine wl_y (y_assign rfl) rfl ?_
  refine wl_nil ?_
  refine wq_then_norm (hK2 ?_)
  refine wc_ret ?_
  refine hret rfl ?_
  exact ⟨A3, c3, rfl, H3, E⟩
theorem hexpand_any (nm lb : ByteArray) (A B : Option Addr) (n c m d k : Nat) (xs ys : List UInt8) (w : World) (HA : Bs w A n xs) (hn : n ≤ 100000) (HB : Bs w B m ys) (hm : m ≤ 10000) (h1 : nm.size ≤ 100) (h2 : lb.size ≤ 100) (hk : k ≤ 8160) :
    Calls Try.prog 26 #[.string nm, .slice A n c, .string lb, .slice B m d, .int .i64 (k : Int)] w fun e w' => ∃ A' c', e = .returned (.slice A' k c') ∧ Bs w' A' k (Hk.exp nm xs lb ys k) ∧ k ≤ c' ∧ Ext w w' := by
  have E := Ext.refl w
  have hyl := HB.1
  have hbl := Wire.be_length 2 k
  have hl : (cat [strB (Wire.be 2 k), ver, nm, lb, strB ys]).length ≤ 11000 := by
    simp only [cat_cons, List.length_append, sb_len nm, sb_len lb, sb_strB, show (sb ver).length = 7 from rfl, show (cat []).length = 0 from rfl]; omega
  refine vc_enter1 32 Try.func26 rfl rfl rfl rfl ?_
  intro Q hret
  refine wc_seq ?_; intro K1 hK1
  refine wc_region ?_
  refine wl_y (y_assign rfl) rfl ?_
  refine wl_nil ?_
  refine wq_then_norm (hK1 ?_)
  refine wc_seq ?_; intro K2 hK2
  refine wc_region ?_
  refine wl_y (y_move rfl) rfl ?_
  refine wl_y (y_conv rfl Try.underlying3 Try.underlying52 (IntWalk.u64_in _ ⟨by omega, by omega⟩)) rfl ?_
  refine wl_call Try.func45 rfl rfl rfl (putNum_any none 0 0 2 k [] _ (Bs.nil _ _) (by omega) (by omega) (by omega)) rfl ?_
  rintro e w1 ⟨A1, c1, rfl, R1, ex⟩
  refine ⟨_, rfl, ?_⟩
  replace HA := HA.ext ex
  replace HB := HB.ext ex
  replace E := E.ext ex
  have H1 := R1.bs
  refine wl_y (y_assign rfl) rfl ?_
  refine wl_nil ?_
  refine wq_then_norm (hK2 ?_)
  refine wc_seq ?_; intro K3 hK3
  refine wc_region ?_
  refine wl_y (y_move rfl) rfl ?_
  refine wl_y (y_move rfl) rfl ?_
  refine wl_y (y_ofBytes rfl H1 Try.underlying22 Try.underlying5 Try.underlying9) rfl ?_
  refine wl_y (y_move rfl) rfl ?_
  refine wl_y (y_move rfl) rfl ?_
  refine wl_y (y_move rfl) rfl ?_
  refine wl_y (y_ofBytes rfl HB Try.underlying22 Try.underlying5 Try.underlying9) rfl ?_
  refine wl_ef (ef_lit (z := .string ⟨#[]⟩) Try.underlying89 (by kernel_rfl) rfl rfl rfl rfl rfl) rfl ?_
  rintro _ w2 ⟨g2, rfl, B2, hg2, ex⟩
  replace HA := HA.ext ex
  replace HB := HB.ext ex
  replace E := E.ext ex
  replace H1 := H1.ext ex
  skip
  refine wl_call Try.func47 rfl rfl rfl (hrow_any [strB (Wire.be 2 k), ver, nm, lb, strB ys] 5 _ B2 rfl (by omega) (by omega)) rfl ?_
  rintro e w3 ⟨A3, m3, c3, rfl, R3, ex⟩
  refine ⟨_, rfl, ?_⟩
  replace HA := HA.ext ex
  replace HB := HB.ext ex
  replace E := E.ext ex
  replace H1 := H1.ext ex
  have H3 := R3.bs; have hm3 := H3.1
  refine wl_y (y_move rfl) rfl ?_
  refine wl_call Try.func46 rfl rfl rfl (expand_any A A3 n c m3 c3 k xs _ _ HA (by omega) H3 (by omega) hk) rfl ?_
  rintro e w4 ⟨A4, c4, rfl, H4, hc4, ex⟩
  refine ⟨_, rfl, ?_⟩
  replace HA := HA.ext ex
  replace HB := HB.ext ex
  replace E := E.ext ex
  replace H1 := H1.ext ex
  skip
  refine wl_y (y_move rfl) rfl ?_
  refine wl_y (y_extract rfl rfl) rfl ?_
  refine wl_y (y_extract rfl rfl) rfl ?_
  refine wl_y (y_assign rfl) rfl ?_
  refine wl_y (y_assign rfl) rfl ?_
  refine wl_nil ?_
  refine wq_then_norm (hK3 ?_)
  refine wc_seq ?_; intro K4 hK4
  refine wc_region ?_
  refine wl_y (y_move rfl) rfl ?_
  refine wl_y (y_assign rfl) rfl ?_
  refine wl_nil ?_
  refine wq_then_norm (hK4 ?_)
  refine wc_ret ?_
  refine hret rfl ?_
  exact ⟨A4, c4, rfl, H4, hc4, E⟩
end Go.Proofs.Ytjllhimhiekchaa
