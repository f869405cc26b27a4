/- The laws NodeTakes and NodeRows: they answer true whatever they are given. -/
import Derived.Test.YtopimmomkapdoaaNdH
import Derived.Test.YtopimmomkapdoaaNdD
namespace Go.Proofs.Ytopimmomkapdoaa
open Go.RowKit
attribute [local irreducible] Y Ef WL WC WK WQ WM OpM WN WF OpN WJ OpJ
open Wire Nd
namespace Nd
theorem cok_vec {s : St} (h : ecode s < 256) : ecode (vecX s).2 < 256 := by
  cases s with
  | error c => exact h
  | ok xs =>
    rw [vecX_ok]
    cases hp : pVec xs with
    | error c => exact (pVec_err hp).2
    | ok p => exact (show 0 < 256 by omega)
theorem cok_num {s : St} (k : Nat) (h : ecode s < 256) : ecode (numX k s).2 < 256 := by
  cases s with
  | error c => exact h
  | ok xs =>
    rw [numX_ok]
    split
    · exact (show 4 < 256 by omega)
    · exact (show 0 < 256 by omega)
theorem num_le {s : St} (k : Nat) : slen (numX k s).2 ≤ slen s := by
  cases s with
  | error c => exact Nat.le_refl _
  | ok xs =>
    rw [numX_ok]
    split
    · exact Nat.zero_le _
    · show (xs.drop k).length ≤ xs.length
      rw [List.length_drop]; omega
theorem cok_lf4 {s : St} (h : ecode s < 256) : ecode (lf4 s) < 256 := cok_num 1 (cok_vec (cok_vec (cok_vec h)))
theorem cok_leafQ {s : St} (h : ecode s < 256) : ecode (leafQ s).2 < 256 := by
  unfold leafQ leafP
  split
  · exact cok_vec (cok_vec (cok_lf4 h))
  · exact cok_vec (cok_lf4 h)
theorem cok_leafX {s : St} (h : ecode s < 256) : (leafX s).1.2 < 256 ∧ ecode (leafX s).2 < 256 := by
  have h4 := cok_lf4 h; have hq := cok_leafQ h
  unfold leafX
  split
  · exact ⟨h4, h4⟩
  · split
    · exact ⟨(show 3 < 256 by omega), h4⟩
    · split
      · exact ⟨hq, hq⟩
      · split
        · exact ⟨(show 0 < 256 by omega), hq⟩
        · exact ⟨(show 3 < 256 by omega), hq⟩
theorem cok_parX {s : St} (h : ecode s < 256) : (parX s).1.2 < 256 ∧ ecode (parX s).2 < 256 := by
  have h3 : ecode (lf3 s) < 256 := cok_vec (cok_vec (cok_vec h))
  unfold parX
  split
  · exact ⟨h3, h3⟩
  · split
    · exact ⟨(show 3 < 256 by omega), h3⟩
    · exact ⟨(show 0 < 256 by omega), h3⟩
theorem cok_nodeX {s : St} (h : ecode s < 256) : (nodeX s).1.2 < 256 ∧ ecode (nodeX s).2 < 256 := by
  have h1 := cok_num 1 h
  have hl := cok_leafX h1; have hp := cok_parX h1
  unfold nodeX
  split
  · exact ⟨h1, h1⟩
  · split
    · exact ⟨(show 0 < 256 by omega), h1⟩
    · split
      · split
        · exact hl
        · exact ⟨(show 0 < 256 by omega), hl.2⟩
      · split
        · split
          · exact hp
          · exact ⟨(show 0 < 256 by omega), hp.2⟩
        · exact ⟨(show 3 < 256 by omega), h1⟩
theorem fit_zero : Leaf.zero.Fit := ⟨Nat.zero_le _, Nat.zero_le _, Nat.zero_le _, Nat.zero_le _, Nat.zero_le _⟩
theorem fit_par0 : Par.zero.Fit := ⟨Nat.zero_le _, Nat.zero_le _, Nat.zero_le _⟩
theorem fit_leafX {s : St} (h : slen s ≤ 1000000) : (leafX s).1.1.Fit := by
  have a1 := vecX_le s; have a2 := vecX_le (lf1 s); have a3 := vecX_le (lf2 s)
  have a4 : slen (lf4 s) ≤ slen (lf3 s) := num_le 1
  have e1 : slen (lf1 s) ≤ slen s := a1.2
  have e2 : slen (lf2 s) ≤ slen (lf1 s) := a2.2
  have e3 : slen (lf3 s) ≤ slen (lf2 s) := a3.2
  have a5 : (leafP s).1.length ≤ slen s ∧ slen (leafP s).2 ≤ slen s := by
    unfold leafP
    split
    · have := vecX_le (lf4 s); omega
    · exact ⟨Nat.zero_le _, by show slen (lf4 s) ≤ slen s; omega⟩
  have a6 := vecX_le (leafP s).2
  have a7 : (leafQ s).1.length ≤ slen (leafP s).2 := a6.1
  have hl : (leafL s).Fit := ⟨by show (vecX s).1.length ≤ _; omega, by show (vecX (lf1 s)).1.length ≤ _; omega, by show (vecX (lf2 s)).1.length ≤ _; omega, by show (leafP s).1.length ≤ _; omega, by show (leafQ s).1.length ≤ _; omega⟩
  unfold leafX
  split
  · exact fit_zero
  · split
    · exact fit_zero
    · split
      · exact fit_zero
      · split
        · exact hl
        · exact fit_zero
theorem fours_le : ∀ ys : List UInt8, (fours ys).length ≤ ys.length
  | [] => Nat.le_refl _
  | [_] => Nat.zero_le _
  | [_, _] => Nat.zero_le _
  | [_, _, _] => Nat.zero_le _
  | a :: b :: c :: d :: r => by have := fours_le r; simp only [fours, List.length_cons]; omega
theorem fit_parX {s : St} (h : slen s ≤ 1000000) : (parX s).1.1.Fit := by
  have a1 := vecX_le s; have a2 := vecX_le (lf1 s); have a3 := vecX_le (lf2 s)
  have e1 : slen (lf1 s) ≤ slen s := a1.2
  have e2 : slen (lf2 s) ≤ slen (lf1 s) := a2.2
  have a4 := fours_le (vecX (lf2 s)).1
  unfold parX
  split
  · exact fit_par0
  · split
    · exact fit_par0
    · exact ⟨by show (vecX s).1.length ≤ _; omega, by show (vecX (lf1 s)).1.length ≤ _; omega, by show (fours (vecX (lf2 s)).1).length ≤ _; omega⟩
theorem fit_nodeX {s : St} (h : slen s ≤ 1000000) : (nodeX s).1.1.Fit := by
  have h1 : slen (numX 1 s).2 ≤ 1000000 := Nat.le_trans (num_le 1) h
  have hl := fit_leafX h1; have hp := fit_parX h1
  have z : Node.zero.Fit := ⟨fit_zero, fit_par0⟩
  unfold nodeX
  split
  · exact z
  · split
    · exact z
    · split
      · split
        · exact z
        · exact ⟨hl, fit_par0⟩
      · split
        · split
          · exact z
          · exact ⟨fit_zero, hp⟩
        · exact z
theorem nodeOf_of {b : List UInt8} {x : Node} {z : Nat} {st : St} (h : nodeX (.ok b) = ((x, z), st)) : nodeOf b = if z ≠ 0 then (Node.zero, z) else if endX st ≠ 0 then (Node.zero, endX st) else (x, 0) := by
  unfold nodeOf; rw [h]
theorem endX_drop {b : List UInt8} {k : Nat} : endX (.ok (b.drop k)) = if k < b.length then 5 else 0 := by
  by_cases h : k < b.length
  · rw [if_pos h, drop_cons h]; rfl
  · rw [if_neg h, List.drop_of_length_le (by omega)]; rfl
end Nd
theorem nodeOf_at {A : Option Addr} {n c : Nat} {b : List UInt8} {x : Node} {z : Nat} (w : World) (HA : Bs w A n b) (hc : n ≤ c) (h : nodeOf b = (x, z)) :
    Calls Try.prog 13 #[.slice A n c] w fun e w' => ∃ cs, e = .returned (.tuple #[.agg cs, .int .u8 (z : Int)]) ∧ NodeF w.heap.size w' cs x ∧ Ext w w' :=
  (nodeOf_any w HA hc).mono fun _ _ ⟨cs, h1, h2, h3⟩ => ⟨cs, by rw [h1, h], by rw [h] at h2; exact h2, h3⟩
theorem rtake16_at {A : Option Addr} {n c : Nat} {b : List UInt8} {s st : St} {x : Node} {z : Nat} {i : Int} (at_ : Nat) (w : World) (HA : Bs w A n b) (hc : n ≤ c) (hn : n ≤ 1000000) (hat : at_ ≤ n) (hi : i = (at_ : Int)) (hs : s = .ok (b.drop at_)) (h : nodeX s = ((x, z), st)) :
    Calls Try.prog 12 #[.slice A n c, .int .i64 i] w fun e w' => ∃ cs nx, e = .returned (.tuple #[.agg cs, .int .i64 ((nx : Nat) : Int), .int .i64 (z : Int)]) ∧ NodeS A n b w.heap.size w' cs x ∧ (z = 0 → st = .ok (b.drop nx) ∧ nx ≤ n) ∧ Ext w w' := by
  subst hi
  refine (rtake16_any w HA hc hn hat hs).mono fun _ _ ⟨cs, nx, h1, h2, h3, h4⟩ => ⟨cs, nx, by rw [h1, h], by rw [h] at h2; exact h2, by rw [h] at h3; exact h3, h4⟩
theorem rtakeLeaf_at {A : Option Addr} {n c : Nat} {b : List UInt8} {s st : St} {l : Leaf} {z : Nat} {i : Int} (at_ : Nat) (w : World) (HA : Bs w A n b) (hc : n ≤ c) (hn : n ≤ 1000000) (hat : at_ ≤ n) (hi : i = (at_ : Int)) (hs : s = .ok (b.drop at_)) (h : leafX s = ((l, z), st)) :
    Calls Try.prog 15 #[.slice A n c, .int .i64 i] w fun e w' => ∃ cs nx, e = .returned (.tuple #[.agg cs, .int .i64 ((nx : Nat) : Int), .int .i64 (z : Int)]) ∧ LeafS A n b cs l ∧ (z = 0 → st = .ok (b.drop nx) ∧ nx ≤ n) ∧ Ext w w' := by
  subst hi
  refine (rtakeLeaf_any w HA hc hn hat hs).mono fun _ _ ⟨cs, nx, h1, h2, h3, h4⟩ => ⟨cs, nx, by rw [h1, h], by rw [h] at h2; exact h2, by rw [h] at h3; exact h3, h4⟩
theorem takeLeaf_at {N : Nat} {S : List Nat} {g : Nat} {s st : St} {l : Leaf} {z : Nat} (w : World) (H0 : Rs N S w g s) (h : leafX s = ((l, z), st)) :
    Calls Try.prog 17 #[.pointer (some ⟨g, 0, none⟩)] w fun e w' => ∃ cs, e = .returned (.tuple #[.agg cs, .int .u8 (z : Int)]) ∧ LeafF w.heap.size w' cs l ∧ Rs N S w' g st ∧ Chs [g] w w' :=
  (takeLeaf_any w H0).mono fun _ _ ⟨cs, h1, h2, h3, h4⟩ => ⟨cs, by rw [h1, h], by rw [h] at h2; exact h2, by rw [h] at h3; exact h3, h4⟩
theorem take16_at {N : Nat} {S : List Nat} {g : Nat} {s st : St} {x : Node} {z : Nat} (w : World) (H0 : Rs N S w g s) (h : nodeX s = ((x, z), st)) :
    Calls Try.prog 20 #[.pointer (some ⟨g, 0, none⟩)] w fun e w' => ∃ cs, e = .returned (.tuple #[.agg cs, .int .u8 (z : Int)]) ∧ NodeF w.heap.size w' cs x ∧ Rs N S w' g st ∧ Chs [g] w w' :=
  (take16_any w H0).mono fun _ _ ⟨cs, h1, h2, h3, h4⟩ => ⟨cs, by rw [h1, h], by rw [h] at h2; exact h2, by rw [h] at h3; exact h3, h4⟩
theorem nodeAt_zero (w : World) : NodeAt w zNodeV Node.zero := (NodeF.zero 0 w).at
theorem alive16_any (w : World) : Calls Try.prog 11 #[] w fun e w' => e = .returned (.bool true) ∧ Ext w w' := by
  have E := Ext.refl w
  have e0 : nodeE Node.zero = ([0], 0) := by unfold nodeE; rw [if_pos (.inl ⟨rfl, rfl, rfl⟩)]; rfl
  have e3 : nodeOf [3] = (Node.zero, 3) := rfl
  refine vc_enter1 34 Try.func11 rfl rfl rfl rfl ?_
  intro Q hret
  refine wc_seq ?_; intro K1 hK1
  refine wc_region ?_
  refine wl_y (y_assign rfl) rfl ?_
  refine wl_nil ?_
  refine wq_then_norm (hK1 ?_)
  refine wc_seq ?_; intro K2 hK2
  refine wc_region ?_
  refine wl_y (y_build rfl (cells := zNodeV) (by kernel_rfl)) rfl ?_
  refine wl_call Try.func22 rfl rfl rfl (Bytes16_any _ (nodeAt_zero _) ⟨fit_zero, fit_par0⟩) rfl ?_
  rintro e w1 ⟨A1, k1, c1, rfl, R1, ex⟩
  refine ⟨_, rfl, ?_⟩
  replace E := E.ext ex
  rw [e0] at R1 ⊢; have H1 := R1.bs
  refine wl_y (y_move rfl) rfl ?_
  refine wl_y (y_extract rfl rfl) rfl ?_
  refine wl_y (y_extract rfl rfl) rfl ?_
  refine wl_y (y_assign rfl) rfl ?_
  refine wl_y (y_assign rfl) rfl ?_
  refine wl_nil ?_
  refine wq_then_norm (hK2 ?_)
  refine wc_seq ?_; intro K3 hK3
  refine wc_region ?_
  refine wl_ef (ef_lit (z := .int .u8 0) Try.underlying22 (by kernel_rfl) rfl rfl rfl rfl rfl) rfl ?_
  rintro _ w2 ⟨g2, rfl, B2, hg2, ex⟩
  replace E := E.ext ex
  replace H1 := H1.ext ex
  skip
  refine wl_call Try.func13 rfl rfl rfl (nodeOf_at (b := [3]) _ (bs_blk' (xs := [(3 : UInt8)]) (B2.congr (by rfl)) rfl) (by omega) e3) rfl ?_
  rintro e w3 ⟨cs, rfl, HN, ex⟩
  refine ⟨_, rfl, ?_⟩
  replace E := E.ext ex
  replace H1 := H1.ext ex
  replace B2 := B2.ext ex
  obtain ⟨h0, h1, h2, h4, h5, p0, p1, p2, rfl, _⟩ := HN
  refine wl_y (y_move rfl) rfl ?_
  refine wl_y (y_extract rfl rfl) rfl ?_
  refine wl_y (y_extract rfl rfl) rfl ?_
  refine wl_ef (ef_alloc (Z := #[.int .u8 0, .slice none 0 0, .slice none 0 0, .slice none 0 0, .int .u8 0, .slice none 0 0, .slice none 0 0, .slice none 0 0, .slice none 0 0, .slice none 0 0]) (by kernel_rfl)) rfl ?_
  rintro _ wA3 ⟨gB3, rfl, D3, hgB3, exA⟩
  refine wl_ef (ef_storeP (o := 0) rfl rfl (by kernel_rfl) D3 (Nat.le_of_ble_eq_true rfl) (all_ones rfl)) rfl ?_
  rintro _ wB3 ⟨rfl, B3, cg⟩
  have ex := exA.chg cg hgB3; clear cg exA D3
  have lB3 := B3.lt; have zB3 := ex.size
  replace E := E.ext ex
  replace H1 := H1.ext ex
  replace B2 := B2.ext ex
  refine wl_y (y_assign rfl) rfl ?_
  refine wl_nil ?_
  refine wq_then_norm (hK3 ?_)
  refine wc_seq ?_; intro K4 hK4
  refine wc_region ?_
  refine wl_y (y_move rfl) rfl ?_
  refine wl_y (y_conv rfl Try.underlying33 Try.underlying3 (show IntKind.i64.wrap 0 = 0 from rfl)) rfl ?_
  refine wl_y (Y.as (y_eql rfl rfl) (congrArg Value.bool (decide_eq_true rfl))) rfl ?_
  refine wl_y (y_move rfl) rfl ?_
  refine wl_gy 18 rfl rfl (y_move rfl) rfl ?_
  refine wl_gy 18 rfl rfl (y_len_slice rfl Try.underlying22) rfl ?_
  have hk1 : k1 = 1 := H1.1.symm
  subst hk1
  obtain ⟨b1, o1, rfl, _, hc1⟩ := H1.get (k := 0) (by omega)
  refine wl_gy 18 rfl rfl (Y.as (y_eql rfl rfl) (congrArg Value.bool (decide_eq_true rfl))) rfl ?_
  refine wl_y (y_pickt rfl rfl) rfl ?_
  refine wl_y (y_move rfl) rfl ?_
  refine wl_gy 23 rfl rfl (y_move rfl) rfl ?_
  refine wl_gy 23 rfl rfl (y_ixs1 rfl rfl Try.underlying22 (by kernel_rfl) (j := 0) rfl (by omega)) rfl ?_
  refine wl_gy 23 rfl rfl (y_load1 rfl Try.underlying5 rfl hc1) rfl ?_
  refine wl_gy 23 rfl rfl (Y.as (y_eql rfl rfl) (congrArg Value.bool (decide_eq_true rfl))) rfl ?_
  refine wl_y (y_pickt rfl rfl) rfl ?_
  refine wl_y (y_move rfl) rfl ?_
  refine wl_gy 29 rfl rfl (y_move rfl) rfl ?_
  refine wl_gy 29 rfl rfl (y_conv rfl Try.underlying33 Try.underlying3 (show IntKind.i64.wrap 3 = 3 from rfl)) rfl ?_
  refine wl_gy 29 rfl rfl (Y.as (y_eql rfl rfl) (congrArg Value.bool (decide_eq_true rfl))) rfl ?_
  refine wl_y (y_pickt rfl rfl) rfl ?_
  refine wl_y (y_assign rfl) rfl ?_
  refine wl_nil ?_
  refine wq_then_norm (hK4 ?_)
  refine wc_ret ?_
  refine hret rfl ?_
  exact ⟨rfl, E⟩
theorem NodeS.kk {A : Option Addr} {n base : Nat} {b : List UInt8} {cs : Array Value} {x : Node} {w : World} {S : List Nat} (h : NodeS A n b base w cs x) (hS : ∀ g ∈ S, g < base) : Kp w.heap.size S (fun w => NodeS A n b base w cs x) w := by
  obtain ⟨h0, h1, h2, h4, h5, p0, p1, p2, e, hk, hs, b0, b1, b2, b4, b5, q0, q1, q2⟩ := h
  exact ⟨Nat.le_refl _, fun w2 hw => ⟨h0, h1, h2, h4, h5, p0, p1, p2, e, hk, hs, b0, b1, b2, b4, b5, q0, q1, (q2.kk hS).2 w2 hw⟩⟩
theorem NodeS.ext {A : Option Addr} {n base : Nat} {b : List UInt8} {cs : Array Value} {x : Node} {w w' : World} (h : NodeS A n b base w cs x) (e : Ext w w') : NodeS A n b base w' cs x := NodeC.imp h (fun _ _ s => s) (fun _ _ z => z.ext e)
set_option maxHeartbeats 1000000 in
theorem nodeTakes_law (A : Option Addr) (n c : Nat) (b : List UInt8) (w : World) (HA : Bs w A n b) (_hn : n ≤ maxLen) (hc : n ≤ c) :
    Calls Try.prog 3 #[.slice A n c] w fun e w' => e = .returned (.bool true) ∧ Below w.heap.size w w' := by
  have hbl := HA.1
  have F := Chs.refl [] w
  have J0 : Kp w.heap.size [] (fun w => Bs w A n b) w := Kp.bs HA (by simp)
  obtain ⟨x, z, st, hX⟩ : ∃ x z st, nodeX (.ok b) = ((x, z), st) := ⟨_, _, _, rfl⟩
  obtain ⟨l, y, su, hL⟩ : ∃ l y su, leafX (.ok b) = ((l, y), su) := ⟨_, _, _, rfl⟩
  have hz8 : z < 256 := by have := (cok_nodeX (s := .ok b) (show 0 < 256 by omega)).1; rw [hX] at this; exact this
  have hy8 : y < 256 := by have := (cok_leafX (s := .ok b) (show 0 < 256 by omega)).1; rw [hL] at this; exact this
  have hO := nodeOf_of hX
  have d0 : (Except.ok b : St) = .ok (b.drop 0) := by rw [List.drop_zero]
  refine vc_enter1 97 Try.func3 rfl rfl rfl rfl ?_
  intro Q hret
  refine wc_seq ?_; intro K1 hK1
  refine wc_region ?_
  refine wl_y (y_assign rfl) rfl ?_
  refine wl_nil ?_
  refine wq_then_norm (hK1 ?_)
  refine wc_seq ?_; intro K2 hK2
  refine wc_seq ?_; intro K3 hK3
  refine wc_region ?_
  refine wl_call Try.func11 rfl rfl rfl (alive16_any _) rfl ?_
  rintro e w1 ⟨rfl, ex⟩
  refine ⟨_, rfl, ?_⟩
  replace F := F.ext ex
  replace J0 := J0.ext ex
  refine wl_y (y_not rfl) rfl ?_
  refine wl_nil ?_
  refine wq_then_norm (hK3 ?_)
  refine wc_false rfl rfl ?_
  refine wc_skip ?_
  refine wq_then_norm (hK2 ?_)
  refine wc_seq ?_; intro K4 hK4
  refine wc_seq ?_; intro K5 hK5
  refine wc_region ?_
  refine wl_y (y_move rfl) rfl ?_
  refine wl_y (y_len_slice rfl Try.underlying22) rfl ?_
  refine wl_y (y_gtr rfl rfl) rfl ?_
  refine wl_nil ?_
  refine wq_then_norm (hK5 ?_)
  refine wc_dec rfl (fun hc2 => ?_) (fun hc2 => ?_)
  · skip
    refine wc_seq ?_; intro K6 hK6
    refine wc_region ?_
    refine wl_y (y_assign rfl) rfl ?_
    refine wl_nil ?_
    refine wq_then_norm (hK6 ?_)
    refine wc_ret ?_
    refine wq_then_ret ?_
    refine hret rfl ?_
    exact ⟨rfl, F.toExt (by simp)⟩
  · skip
    refine wc_skip ?_
    refine wq_then_norm (hK4 ?_)
    refine wc_seq ?_; intro K7 hK7
    have hn : n ≤ 1500 := by omega
    have fx : x.Fit := by have := fit_nodeX (s := .ok b) (show b.length ≤ 1000000 by omega); rw [hX] at this; exact this
    have fl : l.Fit := by have := fit_leafX (s := .ok b) (show b.length ≤ 1000000 by omega); rw [hL] at this; exact this
    refine wc_region ?_
    refine wl_y (y_move rfl) rfl ?_
    refine wl_call Try.func12 rfl rfl rfl (rtake16_at 0 _ J0.out hc (by omega) (by omega) rfl d0 hX) rfl ?_
    rintro e w2 ⟨cs, nx, rfl, HW, hnx, ex⟩
    refine ⟨_, rfl, ?_⟩
    replace F := F.ext ex
    replace J0 := J0.ext ex
    have HW2 := HW; obtain ⟨h0, h1, h2, h4, h5, p0, p1, p2, rfl, _⟩ := HW2
    refine wl_y (y_move rfl) rfl ?_
    refine wl_y (y_extract rfl rfl) rfl ?_
    refine wl_y (y_extract rfl rfl) rfl ?_
    refine wl_y (y_extract rfl rfl) rfl ?_
    refine wl_ef (ef_alloc (Z := #[.int .u8 0, .slice none 0 0, .slice none 0 0, .slice none 0 0, .int .u8 0, .slice none 0 0, .slice none 0 0, .slice none 0 0, .slice none 0 0, .slice none 0 0]) (by kernel_rfl)) rfl ?_
    rintro _ wA3 ⟨gB3, rfl, D3, hgB3, exA⟩
    refine wl_ef (ef_storeP (o := 0) rfl rfl (by kernel_rfl) D3 (Nat.le_of_ble_eq_true rfl) (all_ones rfl)) rfl ?_
    rintro _ wB3 ⟨rfl, B3, cg⟩
    have ex := exA.chg cg hgB3; clear cg exA D3
    have lB3 := B3.lt; have zB3 := ex.size
    replace F := F.ext ex
    replace J0 := J0.ext ex
    replace HW := HW.ext ex
    refine wl_y (y_assign rfl) rfl ?_
    refine wl_y (y_assign rfl) rfl ?_
    refine wl_nil ?_
    refine wq_then_norm (hK7 ?_)
    refine wc_seq ?_; intro K8 hK8
    refine wc_seq ?_; intro K9 hK9
    refine wc_region ?_
    refine wl_y (y_move rfl) rfl ?_
    refine wl_yask (y_eql rfl rfl) rfl (fun q0 => ?_) (fun q0 => ?_)
    · skip
      refine wl_y (y_move rfl) rfl ?_
      refine wl_gy 27 rfl rfl (y_move rfl) rfl ?_
      refine wl_gy 27 rfl rfl (y_move rfl) rfl ?_
      refine wl_gy 27 rfl rfl (y_len_slice rfl Try.underlying22) rfl ?_
      refine wl_gyask 27 rfl rfl (y_lss rfl rfl) rfl (fun q1 => ?_) (fun q1 => ?_)
      · skip
        refine wl_y (y_pickt rfl rfl) rfl ?_
        refine wl_nil ?_
        refine wq_then_norm (hK9 ?_)
        refine wc_true rfl rfl ?_
        refine wc_region ?_
        refine wl_y (y_assign rfl) rfl ?_
        refine wl_nil ?_
        refine wq_then_norm (hK8 ?_)
        refine wc_seq ?_; intro K10 hK10
        have e1 : nodeOf b = (Node.zero, 5) := by
          have h5 : endX st = 5 := by rw [(hnx (by omega)).1, endX_drop, if_pos (by omega)]
          rw [hO, if_neg (by omega), h5, if_pos (show (5 : Nat) ≠ 0 by omega)]
        refine wc_region ?_
        refine wl_y (y_move rfl) rfl ?_
        refine wl_call Try.func13 rfl rfl rfl (nodeOf_at _ J0.out hc e1) rfl ?_
        rintro e w3 ⟨cs2, rfl, HM, ex⟩
        refine ⟨_, rfl, ?_⟩
        replace F := F.ext ex
        replace J0 := J0.ext ex
        replace HW := HW.ext ex
        replace B3 := B3.ext ex
        have HM2 := HM; obtain ⟨i0, i1, i2, i4, i5, r0, r1, r2, rfl, _⟩ := HM2
        refine wl_y (y_move rfl) rfl ?_
        refine wl_y (y_extract rfl rfl) rfl ?_
        refine wl_y (y_extract rfl rfl) rfl ?_
        refine wl_ef (ef_alloc (Z := #[.int .u8 0, .slice none 0 0, .slice none 0 0, .slice none 0 0, .int .u8 0, .slice none 0 0, .slice none 0 0, .slice none 0 0, .slice none 0 0, .slice none 0 0]) (by kernel_rfl)) rfl ?_
        rintro _ wA6 ⟨gB6, rfl, D6, hgB6, exA⟩
        refine wl_ef (ef_storeP (o := 0) rfl rfl (by kernel_rfl) D6 (Nat.le_of_ble_eq_true rfl) (all_ones rfl)) rfl ?_
        rintro _ wB6 ⟨rfl, B6, cg⟩
        have ex := exA.chg cg hgB6; clear cg exA D6
        have lB6 := B6.lt; have zB6 := ex.size
        replace F := F.ext ex
        replace J0 := J0.ext ex
        replace HW := HW.ext ex
        replace B3 := B3.ext ex
        replace HM := HM.ext ex
        refine wl_y (y_assign rfl) rfl ?_
        refine wl_nil ?_
        refine wq_then_norm (hK10 ?_)
        refine wc_seq ?_; intro K11 hK11
        refine wc_seq ?_; intro K12 hK12
        refine wc_region ?_
        refine wl_y (y_move rfl) rfl ?_
        refine wl_y (y_conv rfl Try.underlying33 Try.underlying3 (i64_ok (by omega) (by omega))) rfl ?_
        refine wl_y (y_move rfl) rfl ?_
        refine wl_y (Y.as (y_neq rfl rfl) (congrArg Value.bool (decide_eq_false (by omega)))) rfl ?_
        refine wl_y (y_move rfl) rfl ?_
        refine wl_gy 42 rfl rfl (y_move rfl) rfl ?_
        refine wl_gy 42 rfl rfl (Y.as (y_neq rfl rfl) (congrArg Value.bool (decide_eq_true (by omega)))) rfl ?_
        refine wl_gy 42 rfl rfl (y_move rfl) rfl ?_
        refine wl_gy 45 rfl rfl (y_loadw rfl Try.underlying30 rfl (by kernel_rfl) B6) rfl ?_
        refine wl_gy 45 rfl rfl (y_build rfl (cells := zNodeV) (by kernel_rfl)) rfl ?_
        refine wl_gcall 45 rfl rfl Try.func14 rfl rfl rfl (rsame16_any _ HM.at (nodeAt_zero _) ⟨fit_zero, fit_par0⟩ ⟨fit_zero, fit_par0⟩) rfl ?_
        rintro e w4 ⟨rfl, ex⟩
        refine ⟨_, rfl, ?_⟩
        replace F := F.ext ex
        replace J0 := J0.ext ex
        replace HW := HW.ext ex
        replace B3 := B3.ext ex
        replace HM := HM.ext ex
        replace B6 := B6.ext ex
        rw [decide_eq_true rfl]
        refine wl_gy 45 rfl rfl (y_not rfl) rfl ?_
        refine wl_gy 42 rfl rfl (y_pickt rfl rfl) rfl ?_
        refine wl_y (y_pickf rfl rfl) rfl ?_
        refine wl_y (y_move rfl) rfl ?_
        refine wl_gy 52 rfl rfl (y_move rfl) rfl ?_
        refine wl_gy 52 rfl rfl (Y.as (y_eql rfl rfl) (congrArg Value.bool (decide_eq_false (by omega)))) rfl ?_
        refine wl_gy 52 rfl rfl (y_move rfl) rfl ?_
        refine wl_gno 55 rfl rfl rfl rfl ?_
        refine wl_gno 55 rfl rfl rfl rfl ?_
        refine wl_gno 55 rfl rfl rfl rfl ?_
        refine wl_gno 55 rfl rfl rfl rfl ?_
        refine wl_gy 52 rfl rfl (y_pickf rfl rfl) rfl ?_
        refine wl_y (y_pickf rfl rfl) rfl ?_
        refine wl_nil ?_
        refine wq_then_norm (hK12 ?_)
        refine wc_false rfl rfl ?_
        refine wc_skip ?_
        refine wq_then_norm (hK11 ?_)
        refine wc_seq ?_; intro K13 hK13
        refine wc_region ?_
        refine wl_y (y_move rfl) rfl ?_
        refine wl_call Try.func15 rfl rfl rfl (rtakeLeaf_at 0 _ J0.out hc (by omega) (by omega) rfl d0 hL) rfl ?_
        rintro e w6 ⟨cs3, nl, rfl, HK, hnl, ex⟩
        refine ⟨_, rfl, ?_⟩
        replace F := F.ext ex
        replace J0 := J0.ext ex
        replace HW := HW.ext ex
        replace B3 := B3.ext ex
        replace HM := HM.ext ex
        replace B6 := B6.ext ex
        have HK2 := HK; obtain ⟨j0, j1, j2, j4, j5, rfl, _⟩ := HK2
        refine wl_y (y_move rfl) rfl ?_
        refine wl_y (y_extract rfl rfl) rfl ?_
        refine wl_y (y_extract rfl rfl) rfl ?_
        refine wl_y (y_extract rfl rfl) rfl ?_
        refine wl_ef (ef_alloc (Z := #[.slice none 0 0, .slice none 0 0, .slice none 0 0, .int .u8 0, .slice none 0 0, .slice none 0 0]) (by kernel_rfl)) rfl ?_
        rintro _ wA8 ⟨gB8, rfl, D8, hgB8, exA⟩
        refine wl_ef (ef_storeP (o := 0) rfl rfl (by kernel_rfl) D8 (Nat.le_of_ble_eq_true rfl) (all_ones rfl)) rfl ?_
        rintro _ wB8 ⟨rfl, B8, cg⟩
        have ex := exA.chg cg hgB8; clear cg exA D8
        have lB8 := B8.lt; have zB8 := ex.size
        replace F := F.ext ex
        replace J0 := J0.ext ex
        refine wl_y (y_assign rfl) rfl ?_
        refine wl_y (y_assign rfl) rfl ?_
        refine wl_nil ?_
        refine wq_then_norm (hK13 ?_)
        refine wc_seq ?_; intro K14 hK14
        refine wc_region ?_
        refine wl_y (y_move rfl) rfl ?_
        have z11 := F.size
        refine wl_call Try.func16 rfl rfl rfl (newReader_any A n c b _ hc J0) rfl ?_
        rintro e w7 ⟨g11, rfl, hg11, R, ex⟩
        refine ⟨_, rfl, ?_⟩
        replace F := F.grow ex hg11
        replace J0 := J0.grow ex hg11
        replace B8 := B8.grow ex hg11
        have l11 := R.lt
        refine wl_y (y_assign rfl) rfl ?_
        refine wl_nil ?_
        refine wq_then_norm (hK14 ?_)
        refine wc_seq ?_; intro K15 hK15
        refine wc_region ?_
        refine wl_y (y_move rfl) rfl ?_
        refine wl_call Try.func17 rfl rfl rfl (takeLeaf_at _ R hL) rfl ?_
        rintro e w8 ⟨cs4, rfl, HQ, R2, ex⟩
        refine ⟨_, rfl, ?_⟩
        replace F := F.chs ex
        replace J0 := J0.chs ex
        replace B8 := B8.chs ex
        have HQ2 := HQ; obtain ⟨m0, m1, m2, m4, m5, rfl, _⟩ := HQ2
        refine wl_y (y_move rfl) rfl ?_
        refine wl_y (y_extract rfl rfl) rfl ?_
        refine wl_y (y_extract rfl rfl) rfl ?_
        refine wl_ef (ef_alloc (Z := #[.slice none 0 0, .slice none 0 0, .slice none 0 0, .int .u8 0, .slice none 0 0, .slice none 0 0]) (by kernel_rfl)) rfl ?_
        rintro _ wA12 ⟨gB12, rfl, D12, hgB12, exA⟩
        refine wl_ef (ef_storeP (o := 0) rfl rfl (by kernel_rfl) D12 (Nat.le_of_ble_eq_true rfl) (all_ones rfl)) rfl ?_
        rintro _ wB12 ⟨rfl, B12, cg⟩
        have ex := exA.chg cg hgB12; clear cg exA D12
        have lB12 := B12.lt; have zB12 := ex.size
        replace F := F.ext ex
        replace J0 := J0.ext ex
        replace B8 := B8.ext ex
        replace R2 := R2.ext ex
        replace HQ := HQ.ext ex
        refine wl_y (y_assign rfl) rfl ?_
        refine wl_nil ?_
        refine wq_then_norm (hK15 ?_)
        refine wc_seq ?_; intro K16 hK16
        refine wc_region ?_
        refine wl_y (y_move rfl) rfl ?_
        refine wl_y (y_conv rfl Try.underlying33 Try.underlying3 (i64_ok (by omega) (by omega))) rfl ?_
        refine wl_y (y_move rfl) rfl ?_
        refine wl_y (Y.as (y_eql rfl rfl) (congrArg Value.bool (decide_eq_true (by omega)))) rfl ?_
        refine wl_y (y_move rfl) rfl ?_
        refine wl_gy 79 rfl rfl (y_loadw rfl Try.underlying25 rfl (by kernel_rfl) B12) rfl ?_
        refine wl_gy 79 rfl rfl (y_loadw rfl Try.underlying25 rfl (by kernel_rfl) B8) rfl ?_
        refine wl_gcall 79 rfl rfl Try.func18 rfl rfl rfl (rsameLeaf_any _ HQ.at (HK.at J0.out) fl fl) rfl ?_
        rintro e w9 ⟨rfl, ex⟩
        refine ⟨_, rfl, ?_⟩
        replace F := F.ext ex
        replace J0 := J0.ext ex
        replace B8 := B8.ext ex
        replace R2 := R2.ext ex
        replace HQ := HQ.ext ex
        replace B12 := B12.ext ex
        rw [decide_eq_true rfl]
        refine wl_y (y_pickt rfl rfl) rfl ?_
        refine wl_y (y_move rfl) rfl ?_
        refine wl_gy 84 rfl rfl (y_move rfl) rfl ?_
        refine wl_gyask 84 rfl rfl (y_neq rfl rfl) rfl (fun q5 => ?_) (fun q5 => ?_)
        · skip
          refine wl_gy 84 rfl rfl (y_move rfl) rfl ?_
          refine wl_gno 87 rfl rfl rfl rfl ?_
          refine wl_gno 87 rfl rfl rfl rfl ?_
          refine wl_gno 87 rfl rfl rfl rfl ?_
          refine wl_gno 87 rfl rfl rfl rfl ?_
          refine wl_gno 87 rfl rfl rfl rfl ?_
          refine wl_gno 87 rfl rfl rfl rfl ?_
          refine wl_gno 87 rfl rfl rfl rfl ?_
          refine wl_gy 84 rfl rfl (y_pickt rfl rfl) rfl ?_
          refine wl_y (y_pickt rfl rfl) rfl ?_
          refine wl_y (y_assign rfl) rfl ?_
          refine wl_nil ?_
          refine wq_then_norm (hK16 ?_)
          refine wc_ret ?_
          refine hret rfl ?_
          exact ⟨rfl, (F.drop (by omega)).toExt (by simp)⟩
        · skip
          refine wl_gy 84 rfl rfl (y_move rfl) rfl ?_
          obtain ⟨hsu, hnl2⟩ := hnl (by omega)
          rw [hsu] at R2
          refine wl_gy 87 rfl rfl (y_move rfl) rfl ?_
          refine wl_gcall 87 rfl rfl Try.func19 rfl rfl rfl (rLeft_any _ R2) rfl ?_
          rintro e w10 ⟨rfl, ex⟩
          refine ⟨_, rfl, ?_⟩
          replace F := F.ext ex
          replace J0 := J0.ext ex
          replace B8 := B8.ext ex
          replace R2 := R2.ext ex
          replace HQ := HQ.ext ex
          replace B12 := B12.ext ex
          skip
          refine wl_gy 87 rfl rfl (y_move rfl) rfl ?_
          refine wl_gy 87 rfl rfl (y_len_slice rfl Try.underlying22) rfl ?_
          refine wl_gy 87 rfl rfl (y_move rfl) rfl ?_
          refine wl_gy 87 rfl rfl (y_sub rfl rfl (i64_ok (by omega) (by omega))) rfl ?_
          refine wl_gy 87 rfl rfl (Y.as (y_eql rfl rfl) (congrArg Value.bool (decide_eq_true (by rw [List.length_drop]; omega)))) rfl ?_
          refine wl_gy 84 rfl rfl (y_pickf rfl rfl) rfl ?_
          refine wl_y (y_pickt rfl rfl) rfl ?_
          refine wl_y (y_assign rfl) rfl ?_
          refine wl_nil ?_
          refine wq_then_norm (hK16 ?_)
          refine wc_ret ?_
          refine hret rfl ?_
          exact ⟨rfl, (F.drop (by omega)).toExt (by simp)⟩
      · skip
        refine wl_y (y_pickt rfl rfl) rfl ?_
        refine wl_nil ?_
        refine wq_then_norm (hK9 ?_)
        refine wc_false rfl rfl ?_
        refine wc_skip ?_
        refine wq_then_norm (hK8 ?_)
        refine wc_seq ?_; intro K17 hK17
        have e1 : nodeOf b = (x, 0) := by
          have h5 : endX st = 0 := by rw [(hnx (by omega)).1, endX_drop, if_neg (by omega)]
          rw [hO, if_neg (by omega), h5, if_neg (fun h => h rfl)]
        refine wc_region ?_
        refine wl_y (y_move rfl) rfl ?_
        refine wl_call Try.func13 rfl rfl rfl (nodeOf_at _ J0.out hc e1) rfl ?_
        rintro e w3 ⟨cs2, rfl, HM, ex⟩
        refine ⟨_, rfl, ?_⟩
        replace F := F.ext ex
        replace J0 := J0.ext ex
        replace HW := HW.ext ex
        replace B3 := B3.ext ex
        have HM2 := HM; obtain ⟨i0, i1, i2, i4, i5, r0, r1, r2, rfl, _⟩ := HM2
        refine wl_y (y_move rfl) rfl ?_
        refine wl_y (y_extract rfl rfl) rfl ?_
        refine wl_y (y_extract rfl rfl) rfl ?_
        refine wl_ef (ef_alloc (Z := #[.int .u8 0, .slice none 0 0, .slice none 0 0, .slice none 0 0, .int .u8 0, .slice none 0 0, .slice none 0 0, .slice none 0 0, .slice none 0 0, .slice none 0 0]) (by kernel_rfl)) rfl ?_
        rintro _ wA6 ⟨gB6, rfl, D6, hgB6, exA⟩
        refine wl_ef (ef_storeP (o := 0) rfl rfl (by kernel_rfl) D6 (Nat.le_of_ble_eq_true rfl) (all_ones rfl)) rfl ?_
        rintro _ wB6 ⟨rfl, B6, cg⟩
        have ex := exA.chg cg hgB6; clear cg exA D6
        have lB6 := B6.lt; have zB6 := ex.size
        replace F := F.ext ex
        replace J0 := J0.ext ex
        replace HW := HW.ext ex
        replace B3 := B3.ext ex
        replace HM := HM.ext ex
        refine wl_y (y_assign rfl) rfl ?_
        refine wl_nil ?_
        refine wq_then_norm (hK17 ?_)
        refine wc_seq ?_; intro K18 hK18
        refine wc_seq ?_; intro K19 hK19
        refine wc_region ?_
        refine wl_y (y_move rfl) rfl ?_
        refine wl_y (y_conv rfl Try.underlying33 Try.underlying3 (i64_ok (by omega) (by omega))) rfl ?_
        refine wl_y (y_move rfl) rfl ?_
        refine wl_y (Y.as (y_neq rfl rfl) (congrArg Value.bool (decide_eq_false (by omega)))) rfl ?_
        refine wl_y (y_move rfl) rfl ?_
        refine wl_gy 42 rfl rfl (y_move rfl) rfl ?_
        refine wl_gy 42 rfl rfl (Y.as (y_neq rfl rfl) (congrArg Value.bool (decide_eq_false (by omega)))) rfl ?_
        refine wl_gy 42 rfl rfl (y_move rfl) rfl ?_
        refine wl_gno 45 rfl rfl rfl rfl ?_
        refine wl_gno 45 rfl rfl rfl rfl ?_
        refine wl_gno 45 rfl rfl rfl rfl ?_
        refine wl_gno 45 rfl rfl rfl rfl ?_
        refine wl_gy 42 rfl rfl (y_pickf rfl rfl) rfl ?_
        refine wl_y (y_pickf rfl rfl) rfl ?_
        refine wl_y (y_move rfl) rfl ?_
        refine wl_gy 52 rfl rfl (y_move rfl) rfl ?_
        refine wl_gy 52 rfl rfl (Y.as (y_eql rfl rfl) (congrArg Value.bool (decide_eq_true (by omega)))) rfl ?_
        refine wl_gy 52 rfl rfl (y_move rfl) rfl ?_
        refine wl_gy 55 rfl rfl (y_loadw rfl Try.underlying30 rfl (by kernel_rfl) B6) rfl ?_
        refine wl_gy 55 rfl rfl (y_loadw rfl Try.underlying30 rfl (by kernel_rfl) B3) rfl ?_
        refine wl_gcall 55 rfl rfl Try.func14 rfl rfl rfl (rsame16_any _ HM.at (HW.at J0.out) fx fx) rfl ?_
        rintro e w5 ⟨rfl, ex⟩
        refine ⟨_, rfl, ?_⟩
        replace F := F.ext ex
        replace J0 := J0.ext ex
        replace HW := HW.ext ex
        replace B3 := B3.ext ex
        replace HM := HM.ext ex
        replace B6 := B6.ext ex
        rw [decide_eq_true rfl]
        refine wl_gy 55 rfl rfl (y_not rfl) rfl ?_
        refine wl_gy 52 rfl rfl (y_pickt rfl rfl) rfl ?_
        refine wl_y (y_pickf rfl rfl) rfl ?_
        refine wl_nil ?_
        refine wq_then_norm (hK19 ?_)
        refine wc_false rfl rfl ?_
        refine wc_skip ?_
        refine wq_then_norm (hK18 ?_)
        refine wc_seq ?_; intro K20 hK20
        refine wc_region ?_
        refine wl_y (y_move rfl) rfl ?_
        refine wl_call Try.func15 rfl rfl rfl (rtakeLeaf_at 0 _ J0.out hc (by omega) (by omega) rfl d0 hL) rfl ?_
        rintro e w6 ⟨cs3, nl, rfl, HK, hnl, ex⟩
        refine ⟨_, rfl, ?_⟩
        replace F := F.ext ex
        replace J0 := J0.ext ex
        replace HW := HW.ext ex
        replace B3 := B3.ext ex
        replace HM := HM.ext ex
        replace B6 := B6.ext ex
        have HK2 := HK; obtain ⟨j0, j1, j2, j4, j5, rfl, _⟩ := HK2
        refine wl_y (y_move rfl) rfl ?_
        refine wl_y (y_extract rfl rfl) rfl ?_
        refine wl_y (y_extract rfl rfl) rfl ?_
        refine wl_y (y_extract rfl rfl) rfl ?_
        refine wl_ef (ef_alloc (Z := #[.slice none 0 0, .slice none 0 0, .slice none 0 0, .int .u8 0, .slice none 0 0, .slice none 0 0]) (by kernel_rfl)) rfl ?_
        rintro _ wA8 ⟨gB8, rfl, D8, hgB8, exA⟩
        refine wl_ef (ef_storeP (o := 0) rfl rfl (by kernel_rfl) D8 (Nat.le_of_ble_eq_true rfl) (all_ones rfl)) rfl ?_
        rintro _ wB8 ⟨rfl, B8, cg⟩
        have ex := exA.chg cg hgB8; clear cg exA D8
        have lB8 := B8.lt; have zB8 := ex.size
        replace F := F.ext ex
        replace J0 := J0.ext ex
        refine wl_y (y_assign rfl) rfl ?_
        refine wl_y (y_assign rfl) rfl ?_
        refine wl_nil ?_
        refine wq_then_norm (hK20 ?_)
        refine wc_seq ?_; intro K21 hK21
        refine wc_region ?_
        refine wl_y (y_move rfl) rfl ?_
        have z11 := F.size
        refine wl_call Try.func16 rfl rfl rfl (newReader_any A n c b _ hc J0) rfl ?_
        rintro e w7 ⟨g11, rfl, hg11, R, ex⟩
        refine ⟨_, rfl, ?_⟩
        replace F := F.grow ex hg11
        replace J0 := J0.grow ex hg11
        replace B8 := B8.grow ex hg11
        have l11 := R.lt
        refine wl_y (y_assign rfl) rfl ?_
        refine wl_nil ?_
        refine wq_then_norm (hK21 ?_)
        refine wc_seq ?_; intro K22 hK22
        refine wc_region ?_
        refine wl_y (y_move rfl) rfl ?_
        refine wl_call Try.func17 rfl rfl rfl (takeLeaf_at _ R hL) rfl ?_
        rintro e w8 ⟨cs4, rfl, HQ, R2, ex⟩
        refine ⟨_, rfl, ?_⟩
        replace F := F.chs ex
        replace J0 := J0.chs ex
        replace B8 := B8.chs ex
        have HQ2 := HQ; obtain ⟨m0, m1, m2, m4, m5, rfl, _⟩ := HQ2
        refine wl_y (y_move rfl) rfl ?_
        refine wl_y (y_extract rfl rfl) rfl ?_
        refine wl_y (y_extract rfl rfl) rfl ?_
        refine wl_ef (ef_alloc (Z := #[.slice none 0 0, .slice none 0 0, .slice none 0 0, .int .u8 0, .slice none 0 0, .slice none 0 0]) (by kernel_rfl)) rfl ?_
        rintro _ wA12 ⟨gB12, rfl, D12, hgB12, exA⟩
        refine wl_ef (ef_storeP (o := 0) rfl rfl (by kernel_rfl) D12 (Nat.le_of_ble_eq_true rfl) (all_ones rfl)) rfl ?_
        rintro _ wB12 ⟨rfl, B12, cg⟩
        have ex := exA.chg cg hgB12; clear cg exA D12
        have lB12 := B12.lt; have zB12 := ex.size
        replace F := F.ext ex
        replace J0 := J0.ext ex
        replace B8 := B8.ext ex
        replace R2 := R2.ext ex
        replace HQ := HQ.ext ex
        refine wl_y (y_assign rfl) rfl ?_
        refine wl_nil ?_
        refine wq_then_norm (hK22 ?_)
        refine wc_seq ?_; intro K23 hK23
        refine wc_region ?_
        refine wl_y (y_move rfl) rfl ?_
        refine wl_y (y_conv rfl Try.underlying33 Try.underlying3 (i64_ok (by omega) (by omega))) rfl ?_
        refine wl_y (y_move rfl) rfl ?_
        refine wl_y (Y.as (y_eql rfl rfl) (congrArg Value.bool (decide_eq_true (by omega)))) rfl ?_
        refine wl_y (y_move rfl) rfl ?_
        refine wl_gy 79 rfl rfl (y_loadw rfl Try.underlying25 rfl (by kernel_rfl) B12) rfl ?_
        refine wl_gy 79 rfl rfl (y_loadw rfl Try.underlying25 rfl (by kernel_rfl) B8) rfl ?_
        refine wl_gcall 79 rfl rfl Try.func18 rfl rfl rfl (rsameLeaf_any _ HQ.at (HK.at J0.out) fl fl) rfl ?_
        rintro e w9 ⟨rfl, ex⟩
        refine ⟨_, rfl, ?_⟩
        replace F := F.ext ex
        replace J0 := J0.ext ex
        replace B8 := B8.ext ex
        replace R2 := R2.ext ex
        replace HQ := HQ.ext ex
        replace B12 := B12.ext ex
        rw [decide_eq_true rfl]
        refine wl_y (y_pickt rfl rfl) rfl ?_
        refine wl_y (y_move rfl) rfl ?_
        refine wl_gy 84 rfl rfl (y_move rfl) rfl ?_
        refine wl_gyask 84 rfl rfl (y_neq rfl rfl) rfl (fun q5 => ?_) (fun q5 => ?_)
        · skip
          refine wl_gy 84 rfl rfl (y_move rfl) rfl ?_
          refine wl_gno 87 rfl rfl rfl rfl ?_
          refine wl_gno 87 rfl rfl rfl rfl ?_
          refine wl_gno 87 rfl rfl rfl rfl ?_
          refine wl_gno 87 rfl rfl rfl rfl ?_
          refine wl_gno 87 rfl rfl rfl rfl ?_
          refine wl_gno 87 rfl rfl rfl rfl ?_
          refine wl_gno 87 rfl rfl rfl rfl ?_
          refine wl_gy 84 rfl rfl (y_pickt rfl rfl) rfl ?_
          refine wl_y (y_pickt rfl rfl) rfl ?_
          refine wl_y (y_assign rfl) rfl ?_
          refine wl_nil ?_
          refine wq_then_norm (hK23 ?_)
          refine wc_ret ?_
          refine hret rfl ?_
          exact ⟨rfl, (F.drop (by omega)).toExt (by simp)⟩
        · skip
          refine wl_gy 84 rfl rfl (y_move rfl) rfl ?_
          obtain ⟨hsu, hnl2⟩ := hnl (by omega)
          rw [hsu] at R2
          refine wl_gy 87 rfl rfl (y_move rfl) rfl ?_
          refine wl_gcall 87 rfl rfl Try.func19 rfl rfl rfl (rLeft_any _ R2) rfl ?_
          rintro e w10 ⟨rfl, ex⟩
          refine ⟨_, rfl, ?_⟩
          replace F := F.ext ex
          replace J0 := J0.ext ex
          replace B8 := B8.ext ex
          replace R2 := R2.ext ex
          replace HQ := HQ.ext ex
          replace B12 := B12.ext ex
          skip
          refine wl_gy 87 rfl rfl (y_move rfl) rfl ?_
          refine wl_gy 87 rfl rfl (y_len_slice rfl Try.underlying22) rfl ?_
          refine wl_gy 87 rfl rfl (y_move rfl) rfl ?_
          refine wl_gy 87 rfl rfl (y_sub rfl rfl (i64_ok (by omega) (by omega))) rfl ?_
          refine wl_gy 87 rfl rfl (Y.as (y_eql rfl rfl) (congrArg Value.bool (decide_eq_true (by rw [List.length_drop]; omega)))) rfl ?_
          refine wl_gy 84 rfl rfl (y_pickf rfl rfl) rfl ?_
          refine wl_y (y_pickt rfl rfl) rfl ?_
          refine wl_y (y_assign rfl) rfl ?_
          refine wl_nil ?_
          refine wq_then_norm (hK23 ?_)
          refine wc_ret ?_
          refine hret rfl ?_
          exact ⟨rfl, (F.drop (by omega)).toExt (by simp)⟩
    · skip
      refine wl_y (y_move rfl) rfl ?_
      refine wl_gno 27 rfl rfl rfl rfl ?_
      refine wl_gno 27 rfl rfl rfl rfl ?_
      refine wl_gno 27 rfl rfl rfl rfl ?_
      refine wl_gno 27 rfl rfl rfl rfl ?_
      refine wl_y (y_pickf rfl rfl) rfl ?_
      refine wl_nil ?_
      refine wq_then_norm (hK9 ?_)
      refine wc_false rfl rfl ?_
      refine wc_skip ?_
      refine wq_then_norm (hK8 ?_)
      refine wc_seq ?_; intro K24 hK24
      have e1 : nodeOf b = (Node.zero, z) := by rw [hO, if_pos (by omega)]
      have hzz : z ≠ 0 := by omega
      refine wc_region ?_
      refine wl_y (y_move rfl) rfl ?_
      refine wl_call Try.func13 rfl rfl rfl (nodeOf_at _ J0.out hc e1) rfl ?_
      rintro e w3 ⟨cs2, rfl, HM, ex⟩
      refine ⟨_, rfl, ?_⟩
      replace F := F.ext ex
      replace J0 := J0.ext ex
      replace HW := HW.ext ex
      replace B3 := B3.ext ex
      have HM2 := HM; obtain ⟨i0, i1, i2, i4, i5, r0, r1, r2, rfl, _⟩ := HM2
      refine wl_y (y_move rfl) rfl ?_
      refine wl_y (y_extract rfl rfl) rfl ?_
      refine wl_y (y_extract rfl rfl) rfl ?_
      refine wl_ef (ef_alloc (Z := #[.int .u8 0, .slice none 0 0, .slice none 0 0, .slice none 0 0, .int .u8 0, .slice none 0 0, .slice none 0 0, .slice none 0 0, .slice none 0 0, .slice none 0 0]) (by kernel_rfl)) rfl ?_
      rintro _ wA6 ⟨gB6, rfl, D6, hgB6, exA⟩
      refine wl_ef (ef_storeP (o := 0) rfl rfl (by kernel_rfl) D6 (Nat.le_of_ble_eq_true rfl) (all_ones rfl)) rfl ?_
      rintro _ wB6 ⟨rfl, B6, cg⟩
      have ex := exA.chg cg hgB6; clear cg exA D6
      have lB6 := B6.lt; have zB6 := ex.size
      replace F := F.ext ex
      replace J0 := J0.ext ex
      replace HW := HW.ext ex
      replace B3 := B3.ext ex
      replace HM := HM.ext ex
      refine wl_y (y_assign rfl) rfl ?_
      refine wl_nil ?_
      refine wq_then_norm (hK24 ?_)
      refine wc_seq ?_; intro K25 hK25
      refine wc_seq ?_; intro K26 hK26
      refine wc_region ?_
      refine wl_y (y_move rfl) rfl ?_
      refine wl_y (y_conv rfl Try.underlying33 Try.underlying3 (i64_ok (by omega) (by omega))) rfl ?_
      refine wl_y (y_move rfl) rfl ?_
      refine wl_y (Y.as (y_neq rfl rfl) (congrArg Value.bool (decide_eq_false (by omega)))) rfl ?_
      refine wl_y (y_move rfl) rfl ?_
      refine wl_gy 42 rfl rfl (y_move rfl) rfl ?_
      refine wl_gy 42 rfl rfl (Y.as (y_neq rfl rfl) (congrArg Value.bool (decide_eq_true (by omega)))) rfl ?_
      refine wl_gy 42 rfl rfl (y_move rfl) rfl ?_
      refine wl_gy 45 rfl rfl (y_loadw rfl Try.underlying30 rfl (by kernel_rfl) B6) rfl ?_
      refine wl_gy 45 rfl rfl (y_build rfl (cells := zNodeV) (by kernel_rfl)) rfl ?_
      refine wl_gcall 45 rfl rfl Try.func14 rfl rfl rfl (rsame16_any _ HM.at (nodeAt_zero _) ⟨fit_zero, fit_par0⟩ ⟨fit_zero, fit_par0⟩) rfl ?_
      rintro e w4 ⟨rfl, ex⟩
      refine ⟨_, rfl, ?_⟩
      replace F := F.ext ex
      replace J0 := J0.ext ex
      replace HW := HW.ext ex
      replace B3 := B3.ext ex
      replace HM := HM.ext ex
      replace B6 := B6.ext ex
      rw [decide_eq_true rfl]
      refine wl_gy 45 rfl rfl (y_not rfl) rfl ?_
      refine wl_gy 42 rfl rfl (y_pickt rfl rfl) rfl ?_
      refine wl_y (y_pickf rfl rfl) rfl ?_
      refine wl_y (y_move rfl) rfl ?_
      refine wl_gy 52 rfl rfl (y_move rfl) rfl ?_
      refine wl_gy 52 rfl rfl (Y.as (y_eql rfl rfl) (congrArg Value.bool (decide_eq_false (by omega)))) rfl ?_
      refine wl_gy 52 rfl rfl (y_move rfl) rfl ?_
      refine wl_gno 55 rfl rfl rfl rfl ?_
      refine wl_gno 55 rfl rfl rfl rfl ?_
      refine wl_gno 55 rfl rfl rfl rfl ?_
      refine wl_gno 55 rfl rfl rfl rfl ?_
      refine wl_gy 52 rfl rfl (y_pickf rfl rfl) rfl ?_
      refine wl_y (y_pickf rfl rfl) rfl ?_
      refine wl_nil ?_
      refine wq_then_norm (hK26 ?_)
      refine wc_false rfl rfl ?_
      refine wc_skip ?_
      refine wq_then_norm (hK25 ?_)
      refine wc_seq ?_; intro K27 hK27
      refine wc_region ?_
      refine wl_y (y_move rfl) rfl ?_
      refine wl_call Try.func15 rfl rfl rfl (rtakeLeaf_at 0 _ J0.out hc (by omega) (by omega) rfl d0 hL) rfl ?_
      rintro e w6 ⟨cs3, nl, rfl, HK, hnl, ex⟩
      refine ⟨_, rfl, ?_⟩
      replace F := F.ext ex
      replace J0 := J0.ext ex
      replace HW := HW.ext ex
      replace B3 := B3.ext ex
      replace HM := HM.ext ex
      replace B6 := B6.ext ex
      have HK2 := HK; obtain ⟨j0, j1, j2, j4, j5, rfl, _⟩ := HK2
      refine wl_y (y_move rfl) rfl ?_
      refine wl_y (y_extract rfl rfl) rfl ?_
      refine wl_y (y_extract rfl rfl) rfl ?_
      refine wl_y (y_extract rfl rfl) rfl ?_
      refine wl_ef (ef_alloc (Z := #[.slice none 0 0, .slice none 0 0, .slice none 0 0, .int .u8 0, .slice none 0 0, .slice none 0 0]) (by kernel_rfl)) rfl ?_
      rintro _ wA8 ⟨gB8, rfl, D8, hgB8, exA⟩
      refine wl_ef (ef_storeP (o := 0) rfl rfl (by kernel_rfl) D8 (Nat.le_of_ble_eq_true rfl) (all_ones rfl)) rfl ?_
      rintro _ wB8 ⟨rfl, B8, cg⟩
      have ex := exA.chg cg hgB8; clear cg exA D8
      have lB8 := B8.lt; have zB8 := ex.size
      replace F := F.ext ex
      replace J0 := J0.ext ex
      refine wl_y (y_assign rfl) rfl ?_
      refine wl_y (y_assign rfl) rfl ?_
      refine wl_nil ?_
      refine wq_then_norm (hK27 ?_)
      refine wc_seq ?_; intro K28 hK28
      refine wc_region ?_
      refine wl_y (y_move rfl) rfl ?_
      have z11 := F.size
      refine wl_call Try.func16 rfl rfl rfl (newReader_any A n c b _ hc J0) rfl ?_
      rintro e w7 ⟨g11, rfl, hg11, R, ex⟩
      refine ⟨_, rfl, ?_⟩
      replace F := F.grow ex hg11
      replace J0 := J0.grow ex hg11
      replace B8 := B8.grow ex hg11
      have l11 := R.lt
      refine wl_y (y_assign rfl) rfl ?_
      refine wl_nil ?_
      refine wq_then_norm (hK28 ?_)
      refine wc_seq ?_; intro K29 hK29
      refine wc_region ?_
      refine wl_y (y_move rfl) rfl ?_
      refine wl_call Try.func17 rfl rfl rfl (takeLeaf_at _ R hL) rfl ?_
      rintro e w8 ⟨cs4, rfl, HQ, R2, ex⟩
      refine ⟨_, rfl, ?_⟩
      replace F := F.chs ex
      replace J0 := J0.chs ex
      replace B8 := B8.chs ex
      have HQ2 := HQ; obtain ⟨m0, m1, m2, m4, m5, rfl, _⟩ := HQ2
      refine wl_y (y_move rfl) rfl ?_
      refine wl_y (y_extract rfl rfl) rfl ?_
      refine wl_y (y_extract rfl rfl) rfl ?_
      refine wl_ef (ef_alloc (Z := #[.slice none 0 0, .slice none 0 0, .slice none 0 0, .int .u8 0, .slice none 0 0, .slice none 0 0]) (by kernel_rfl)) rfl ?_
      rintro _ wA12 ⟨gB12, rfl, D12, hgB12, exA⟩
      refine wl_ef (ef_storeP (o := 0) rfl rfl (by kernel_rfl) D12 (Nat.le_of_ble_eq_true rfl) (all_ones rfl)) rfl ?_
      rintro _ wB12 ⟨rfl, B12, cg⟩
      have ex := exA.chg cg hgB12; clear cg exA D12
      have lB12 := B12.lt; have zB12 := ex.size
      replace F := F.ext ex
      replace J0 := J0.ext ex
      replace B8 := B8.ext ex
      replace R2 := R2.ext ex
      replace HQ := HQ.ext ex
      refine wl_y (y_assign rfl) rfl ?_
      refine wl_nil ?_
      refine wq_then_norm (hK29 ?_)
      refine wc_seq ?_; intro K30 hK30
      refine wc_region ?_
      refine wl_y (y_move rfl) rfl ?_
      refine wl_y (y_conv rfl Try.underlying33 Try.underlying3 (i64_ok (by omega) (by omega))) rfl ?_
      refine wl_y (y_move rfl) rfl ?_
      refine wl_y (Y.as (y_eql rfl rfl) (congrArg Value.bool (decide_eq_true (by omega)))) rfl ?_
      refine wl_y (y_move rfl) rfl ?_
      refine wl_gy 79 rfl rfl (y_loadw rfl Try.underlying25 rfl (by kernel_rfl) B12) rfl ?_
      refine wl_gy 79 rfl rfl (y_loadw rfl Try.underlying25 rfl (by kernel_rfl) B8) rfl ?_
      refine wl_gcall 79 rfl rfl Try.func18 rfl rfl rfl (rsameLeaf_any _ HQ.at (HK.at J0.out) fl fl) rfl ?_
      rintro e w9 ⟨rfl, ex⟩
      refine ⟨_, rfl, ?_⟩
      replace F := F.ext ex
      replace J0 := J0.ext ex
      replace B8 := B8.ext ex
      replace R2 := R2.ext ex
      replace HQ := HQ.ext ex
      replace B12 := B12.ext ex
      rw [decide_eq_true rfl]
      refine wl_y (y_pickt rfl rfl) rfl ?_
      refine wl_y (y_move rfl) rfl ?_
      refine wl_gy 84 rfl rfl (y_move rfl) rfl ?_
      refine wl_gyask 84 rfl rfl (y_neq rfl rfl) rfl (fun q5 => ?_) (fun q5 => ?_)
      · skip
        refine wl_gy 84 rfl rfl (y_move rfl) rfl ?_
        refine wl_gno 87 rfl rfl rfl rfl ?_
        refine wl_gno 87 rfl rfl rfl rfl ?_
        refine wl_gno 87 rfl rfl rfl rfl ?_
        refine wl_gno 87 rfl rfl rfl rfl ?_
        refine wl_gno 87 rfl rfl rfl rfl ?_
        refine wl_gno 87 rfl rfl rfl rfl ?_
        refine wl_gno 87 rfl rfl rfl rfl ?_
        refine wl_gy 84 rfl rfl (y_pickt rfl rfl) rfl ?_
        refine wl_y (y_pickt rfl rfl) rfl ?_
        refine wl_y (y_assign rfl) rfl ?_
        refine wl_nil ?_
        refine wq_then_norm (hK30 ?_)
        refine wc_ret ?_
        refine hret rfl ?_
        exact ⟨rfl, (F.drop (by omega)).toExt (by simp)⟩
      · skip
        refine wl_gy 84 rfl rfl (y_move rfl) rfl ?_
        obtain ⟨hsu, hnl2⟩ := hnl (by omega)
        rw [hsu] at R2
        refine wl_gy 87 rfl rfl (y_move rfl) rfl ?_
        refine wl_gcall 87 rfl rfl Try.func19 rfl rfl rfl (rLeft_any _ R2) rfl ?_
        rintro e w10 ⟨rfl, ex⟩
        refine ⟨_, rfl, ?_⟩
        replace F := F.ext ex
        replace J0 := J0.ext ex
        replace B8 := B8.ext ex
        replace R2 := R2.ext ex
        replace HQ := HQ.ext ex
        replace B12 := B12.ext ex
        skip
        refine wl_gy 87 rfl rfl (y_move rfl) rfl ?_
        refine wl_gy 87 rfl rfl (y_len_slice rfl Try.underlying22) rfl ?_
        refine wl_gy 87 rfl rfl (y_move rfl) rfl ?_
        refine wl_gy 87 rfl rfl (y_sub rfl rfl (i64_ok (by omega) (by omega))) rfl ?_
        refine wl_gy 87 rfl rfl (Y.as (y_eql rfl rfl) (congrArg Value.bool (decide_eq_true (by rw [List.length_drop]; omega)))) rfl ?_
        refine wl_gy 84 rfl rfl (y_pickf rfl rfl) rfl ?_
        refine wl_y (y_pickt rfl rfl) rfl ?_
        refine wl_y (y_assign rfl) rfl ?_
        refine wl_nil ?_
        refine wq_then_norm (hK30 ?_)
        refine wc_ret ?_
        refine hret rfl ?_
        exact ⟨rfl, (F.drop (by omega)).toExt (by simp)⟩
theorem rtake_nil (z : Int) (w : World) : Calls Try.prog 118 #[.pointer none, .int .i64 z] w fun e w' => e = .returned (.tuple #[.slice none 0 0, .bool false]) ∧ Ext w w' := by
  refine vc_enter2 48 Try.func118 rfl rfl rfl rfl ?_
  intro Q hret
  refine wc_seq ?_; intro K1 hK1
  refine wc_region ?_
  refine wl_y (y_assign rfl) rfl ?_
  refine wl_y (y_assign rfl) rfl ?_
  refine wl_nil ?_
  refine wq_then_norm (hK1 ?_)
  refine wc_seq ?_; intro K2 hK2
  refine wc_block ?_
  refine wc_seq ?_; intro K3 hK3
  refine wc_region ?_
  refine wl_y (y_move rfl) rfl ?_
  refine wl_y (Y.as (y_eqlp rfl rfl Try.underlying39) (show Value.bool _ = .bool true from rfl)) rfl ?_
  refine wl_y (y_move rfl) rfl ?_
  refine wl_gno 10 rfl rfl rfl rfl ?_
  refine wl_gno 10 rfl rfl rfl rfl ?_
  refine wl_gno 10 rfl rfl rfl rfl ?_
  refine wl_gno 10 rfl rfl rfl rfl ?_
  refine wl_gno 10 rfl rfl rfl rfl ?_
  refine wl_y (y_pickt rfl rfl) rfl ?_
  refine wl_y (y_assign rfl) rfl ?_
  refine wl_nil ?_
  refine wq_then_norm (hK3 ?_)
  refine wc_true rfl rfl ?_
  refine wc_seq ?_; intro K4 hK4
  refine wc_region ?_
  refine wl_y (y_assign rfl) rfl ?_
  refine wl_y (y_assign rfl) rfl ?_
  refine wl_nil ?_
  refine wq_then_norm (hK4 ?_)
  refine wc_ret ?_
  refine wq_blk_ret ?_
  refine wq_then_ret ?_
  refine hret rfl rfl ?_
  exact ⟨rfl, Ext.refl _⟩
theorem rnum_nil (w : World) : Calls Try.prog 63 #[.pointer none, .int .i64 1] w fun e w' => e = .returned (.int .u64 0) ∧ Ext w w' := by
  have E := Ext.refl w
  refine vc_enter1 18 Try.func63 rfl rfl rfl rfl ?_
  intro Q hret
  refine wc_seq ?_; intro K1 hK1
  refine wc_region ?_
  refine wl_y (y_assign rfl) rfl ?_
  refine wl_nil ?_
  refine wq_then_norm (hK1 ?_)
  refine wc_seq ?_; intro K2 hK2
  refine wc_seq ?_; intro K3 hK3
  refine wc_region ?_
  refine wl_y (y_move rfl) rfl ?_
  refine wl_call Try.func117 rfl rfl rfl (may_any 1 _) rfl ?_
  rintro e w1 ⟨rfl, ex⟩
  refine ⟨_, rfl, ?_⟩
  replace E := E.ext ex
  rw [decide_eq_true (.inl rfl)]
  refine wl_y (y_not rfl) rfl ?_
  refine wl_nil ?_
  refine wq_then_norm (hK3 ?_)
  refine wc_false rfl rfl ?_
  refine wc_skip ?_
  refine wq_then_norm (hK2 ?_)
  refine wc_seq ?_; intro K4 hK4
  refine wc_region ?_
  refine wl_y (y_move rfl) rfl ?_
  refine wl_y (y_move rfl) rfl ?_
  refine wl_call Try.func118 rfl rfl rfl (rtake_nil 1 _) rfl ?_
  rintro e w2 ⟨rfl, ex⟩
  refine ⟨_, rfl, ?_⟩
  replace E := E.ext ex
  skip
  refine wl_y (y_move rfl) rfl ?_
  refine wl_y (y_extract rfl rfl) rfl ?_
  refine wl_y (y_extract rfl rfl) rfl ?_
  refine wl_y (y_assign rfl) rfl ?_
  refine wl_y (y_assign rfl) rfl ?_
  refine wl_nil ?_
  refine wq_then_norm (hK4 ?_)
  refine wc_seq ?_; intro K5 hK5
  refine wc_region ?_
  refine wl_y (y_move rfl) rfl ?_
  refine wl_call Try.func119 rfl rfl rfl (number_any none 0 0 [] _ (Bs.nil _ _) (by omega)) rfl ?_
  rintro e w3 ⟨rfl, ex⟩
  refine ⟨_, rfl, ?_⟩
  replace E := E.ext ex
  skip
  refine wl_y (y_assign rfl) rfl ?_
  refine wl_nil ?_
  refine wq_then_norm (hK5 ?_)
  refine wc_ret ?_
  refine hret rfl ?_
  exact ⟨rfl, E⟩
theorem take16_nil (w : World) : Calls Try.prog 20 #[.pointer none] w fun e w' => e = .returned (.tuple #[.agg zNodeV, .int .u8 2]) ∧ Ext w w' := by
  have F := Chs.refl [] w
  refine vc_enterct (s := 10) 42 Try.func20 rfl rfl rfl Try.underlying30 rfl (by kernel_rfl) rfl ?_
  intro Q hret
  refine wc_seq ?_; intro K1 hK1
  refine wc_region ?_
  refine wl_ef (ef_alloc (Z := #[.int .u8 0, .slice none 0 0, .slice none 0 0, .slice none 0 0, .int .u8 0, .slice none 0 0, .slice none 0 0, .slice none 0 0, .slice none 0 0, .slice none 0 0]) (by kernel_rfl)) rfl ?_
  rintro _ wB2 ⟨gB2, rfl, B2, hgB2, ex⟩
  have lB2 := B2.lt; have zB2 := ex.size
  replace F := F.grow ex hgB2
  refine wl_y (y_assign rfl) rfl ?_
  refine wl_nil ?_
  refine wq_then_norm (hK1 ?_)
  refine wc_seq ?_; intro K2 hK2
  refine wc_region ?_
  refine wl_y (y_move rfl) rfl ?_
  refine wl_call Try.func63 rfl rfl rfl (rnum_nil _) rfl ?_
  rintro e w1 ⟨rfl, ex⟩
  refine ⟨_, rfl, ?_⟩
  replace F := F.ext ex
  replace B2 := B2.ext ex
  skip
  refine wl_y (y_conv rfl Try.underlying59 Try.underlying5 (show IntKind.u8.wrap 0 = 0 from rfl)) rfl ?_
  refine wl_y (y_build rfl (cells := zNodeV) (by kernel_rfl)) rfl ?_
  have z1 := F.size
  refine wl_ef (ef_alloc (Z := #[.int .u8 0, .slice none 0 0, .slice none 0 0, .slice none 0 0, .int .u8 0, .slice none 0 0, .slice none 0 0, .slice none 0 0, .slice none 0 0, .slice none 0 0]) (by kernel_rfl)) rfl ?_
  rintro _ wB4 ⟨gB4, rfl, B4, hgB4, ex⟩
  have lB4 := B4.lt; have zB4 := ex.size
  have nB2_4 : gB2 < gB4 := Nat.lt_of_lt_of_le B2.lt hgB4
  replace F := F.grow ex hgB4
  replace B2 := B2.grow ex hgB4
  refine wl_ef (ef_storeP (o := 0) rfl rfl (by kernel_rfl) B4 (Nat.le_of_ble_eq_true rfl) (all_ones rfl)) rfl ?_
  rintro _ wS1_5 ⟨rfl, D, cg⟩
  have ex := Chs.one cg
  clear cg
  replace F := F.chs ex
  replace B2 := B2.chs ex
  replace B4 := D; clear D
  refine wl_nil ?_
  refine wq_then_norm (hK2 ?_)
  refine wc_seq ?_; intro K3 hK3
  refine wc_region ?_
  refine wl_y (y_move rfl) rfl ?_
  refine wl_call Try.func64 rfl rfl rfl (rErr_nil _) rfl ?_
  rintro e w2 ⟨rfl, ex⟩
  refine ⟨_, rfl, ?_⟩
  replace F := F.ext ex
  replace B2 := B2.ext ex
  replace B4 := B4.ext ex
  skip
  refine wl_y (y_assign rfl) rfl ?_
  refine wl_nil ?_
  refine wq_then_norm (hK3 ?_)
  refine wc_seq ?_; intro K4 hK4
  refine wc_seq ?_; intro K5 hK5
  refine wc_region ?_
  refine wl_y (y_move rfl) rfl ?_
  refine wl_y (y_neq rfl rfl) rfl ?_
  refine wl_nil ?_
  refine wq_then_norm (hK5 ?_)
  refine wc_yes rfl (by omega) ?_
  refine wc_seq ?_; intro K6 hK6
  refine wc_region ?_
  refine wl_y (y_build rfl (cells := zNodeV) (by kernel_rfl)) rfl ?_
  refine wl_y (y_move rfl) rfl ?_
  refine wl_ef (ef_storeP (o := 0) rfl rfl (by kernel_rfl) B2 (Nat.le_of_ble_eq_true rfl) (all_ones rfl)) rfl ?_
  rintro _ wS4_2 ⟨rfl, D, cg⟩
  have ex := Chs.one cg
  clear cg
  replace F := F.chs ex
  replace B4 := B4.chs ex
  replace B2 := D; clear D
  replace B2 := B2.congr (cs' := zNodeV) rfl
  refine wl_y (y_assign rfl) rfl ?_
  refine wl_nil ?_
  refine wq_then_norm (hK6 ?_)
  refine wc_ret ?_
  refine wq_then_ret ?_
  refine hret rfl rfl B2 rfl ?_
  exact ⟨rfl, ((F.drop (by omega)).drop (by omega)).toExt (by simp)⟩
namespace Nd
theorem nodeX_zero {s st : St} {x : Node} {z : Nat} (h : nodeX s = ((x, z), st)) (hz : z ≠ 0) : x = Node.zero := by
  unfold nodeX at h
  split at h
  · injection h with h _; injection h with h _; exact h.symm
  · split at h
    · injection h with h _; injection h with _ h; exact absurd h.symm hz
    · split at h
      · split at h
        · injection h with h _; injection h with h _; exact h.symm
        · injection h with h _; injection h with _ h; exact absurd h.symm hz
      · split at h
        · split at h
          · injection h with h _; injection h with h _; exact h.symm
          · injection h with h _; injection h with _ h; exact absurd h.symm hz
        · injection h with h _; injection h with h _; exact h.symm
theorem leafX_le (s : St) : slen (leafX s).2 ≤ slen s := by
  have a1 : slen (lf1 s) ≤ slen s := (vecX_le s).2
  have a2 : slen (lf2 s) ≤ slen (lf1 s) := (vecX_le (lf1 s)).2
  have a3 : slen (lf3 s) ≤ slen (lf2 s) := (vecX_le (lf2 s)).2
  have a4 : slen (lf4 s) ≤ slen (lf3 s) := num_le 1
  have a5 : slen (leafP s).2 ≤ slen (lf4 s) := by
    unfold leafP
    split
    · exact (vecX_le _).2
    · exact Nat.le_refl _
  have a6 : slen (leafQ s).2 ≤ slen (leafP s).2 := (vecX_le _).2
  unfold leafX
  split
  · show slen (lf4 s) ≤ _; omega
  · split
    · show slen (lf4 s) ≤ _; omega
    · split
      · show slen (leafQ s).2 ≤ _; omega
      · split
        · show slen (leafQ s).2 ≤ _; omega
        · show slen (leafQ s).2 ≤ _; omega
theorem parX_le (s : St) : slen (parX s).2 ≤ slen s := by
  have a1 : slen (lf1 s) ≤ slen s := (vecX_le s).2
  have a2 : slen (lf2 s) ≤ slen (lf1 s) := (vecX_le (lf1 s)).2
  have a3 : slen (lf3 s) ≤ slen (lf2 s) := (vecX_le (lf2 s)).2
  unfold parX
  split
  · show slen (lf3 s) ≤ _; omega
  · split
    · show slen (lf3 s) ≤ _; omega
    · show slen (lf3 s) ≤ _; omega
theorem nodeX_dec {xs : List UInt8} {st : St} {x : Node} (h : nodeX (.ok xs) = ((x, 0), st)) : slen st < xs.length := by
  have hne : 1 ≤ xs.length := by
    cases xs with
    | nil => exact absurd (congrArg (fun q => q.1.2) h) (show ¬ (4 : Nat) = 0 by omega)
    | cons a r => simp
  have e2 : (numX 1 (.ok xs)).2 = .ok (xs.drop 1) := by rw [numX_ok, if_neg (by omega)]
  have hl := leafX_le (numX 1 (.ok xs)).2; have hp := parX_le (numX 1 (.ok xs)).2
  have hs : slen (numX 1 (.ok xs)).2 = xs.length - 1 := by rw [e2]; show (xs.drop 1).length = _; rw [List.length_drop]
  have e3 : st = (nodeX (.ok xs)).2 := by rw [h]
  rw [e3]
  unfold nodeX
  split
  · show slen (numX 1 (.ok xs)).2 < _; omega
  · split
    · show slen (numX 1 (.ok xs)).2 < _; omega
    · split
      · split
        · show slen (leafX (numX 1 (.ok xs)).2).2 < _; omega
        · show slen (leafX (numX 1 (.ok xs)).2).2 < _; omega
      · split
        · split
          · show slen (parX (numX 1 (.ok xs)).2).2 < _; omega
          · show slen (parX (numX 1 (.ok xs)).2).2 < _; omega
        · show slen (numX 1 (.ok xs)).2 < _; omega
end Nd
set_option maxHeartbeats 1000000 in
theorem nodeRows_law (A : Option Addr) (n c : Nat) (b : List UInt8) (w : World) (HA : Bs w A n b) (_hn : n ≤ maxLen) (hc : n ≤ c) :
    Calls Try.prog 4 #[.slice A n c] w fun e w' => e = .returned (.bool true) ∧ Below w.heap.size w w' := by
  have hbl := HA.1
  have F := Chs.refl [] w
  have J0 : Kp w.heap.size [] (fun w => Bs w A n b) w := Kp.bs HA (by simp)
  have e4 : nodeX (.ok []) = ((Node.zero, 4), .error 4) := rfl
  refine vc_enter1 81 Try.func4 rfl rfl rfl rfl ?_
  intro Q hret
  refine wc_seq ?_; intro K1 hK1
  refine wc_region ?_
  refine wl_y (y_assign rfl) rfl ?_
  refine wl_nil ?_
  refine wq_then_norm (hK1 ?_)
  refine wc_seq ?_; intro K2 hK2
  refine wc_seq ?_; intro K3 hK3
  refine wc_region ?_
  refine wl_call Try.func11 rfl rfl rfl (alive16_any _) rfl ?_
  rintro e w1 ⟨rfl, ex⟩
  refine ⟨_, rfl, ?_⟩
  replace F := F.ext ex
  replace J0 := J0.ext ex
  refine wl_y (y_not rfl) rfl ?_
  refine wl_nil ?_
  refine wq_then_norm (hK3 ?_)
  refine wc_false rfl rfl ?_
  refine wc_skip ?_
  refine wq_then_norm (hK2 ?_)
  refine wc_seq ?_; intro K4 hK4
  refine wc_seq ?_; intro K5 hK5
  refine wc_region ?_
  refine wl_y (y_move rfl) rfl ?_
  refine wl_y (y_len_slice rfl Try.underlying22) rfl ?_
  refine wl_y (y_gtr rfl rfl) rfl ?_
  refine wl_nil ?_
  refine wq_then_norm (hK5 ?_)
  refine wc_dec rfl (fun hc2 => ?_) (fun hc2 => ?_)
  · skip
    refine wc_seq ?_; intro K6 hK6
    refine wc_region ?_
    refine wl_y (y_assign rfl) rfl ?_
    refine wl_nil ?_
    refine wq_then_norm (hK6 ?_)
    refine wc_ret ?_
    refine wq_then_ret ?_
    refine hret rfl ?_
    exact ⟨rfl, F.toExt (by simp)⟩
  · skip
    refine wc_skip ?_
    refine wq_then_norm (hK4 ?_)
    refine wc_seq ?_; intro K7 hK7
    refine wc_region ?_
    refine wl_y (y_move rfl) rfl ?_
    have hn : n ≤ 1500 := by omega
    have z5 := F.size
    refine wl_call Try.func16 rfl rfl rfl (newReader_any A n c b _ hc J0) rfl ?_
    rintro e w2 ⟨g3, rfl, hg3, R, ex⟩
    refine ⟨_, rfl, ?_⟩
    replace F := F.grow ex hg3
    replace J0 := J0.grow ex hg3
    refine wl_y (y_assign rfl) rfl ?_
    refine wl_nil ?_
    refine wq_then_norm (hK7 ?_)
    refine wc_seq ?_; intro K8 hK8
    refine wc_region ?_
    refine wl_y (y_assign rfl) rfl ?_
    refine wl_nil ?_
    refine wq_then_norm (hK8 ?_)
    refine wc_seq ?_; intro K9 hK9
    refine wc_block ?_
    have F0 := F; have J00 := J0
    have G := Chs.refl [g3] w2
    have z2 := J0.1
    refine wc_loop (fun n' L wr => ∃ (p : Nat), L = [(0, .slice A n c), (3, .pointer (some ⟨g3, 0, none⟩)), (4, .int .i64 (p : Int))] ∧ n' = n - p ∧ (p ≤ n ∧ Chs [g3] w2 wr ∧ Rs w.heap.size [g3] wr g3 (.ok (b.drop p)))) _ _ ⟨0, rfl, rfl, by omega, G, by rw [List.drop_zero]; exact R⟩ ⟨rfl, rfl, (by first | rfl | exact congrArg some (int_val (by omega))), trivial⟩ ?_
    rintro KL1 n' L wr ⟨p, rfl, rfl, hp, G, R⟩ hL1
    refine wc_seq ?_; intro K10 hK10
    refine wc_seq ?_; intro K11 hK11
    refine wc_region ?_
    refine wl_y (y_move rfl) rfl ?_
    refine wl_y (y_move rfl) rfl ?_
    refine wl_y (y_len_slice rfl Try.underlying22) rfl ?_
    refine wl_y (y_lss rfl rfl) rfl ?_
    refine wl_nil ?_
    refine wq_then_norm (hK11 ?_)
    refine wc_dec rfl (fun hc3 => ?_) (fun hc3 => ?_)
    · skip
      refine wc_skip ?_
      refine wq_then_norm (hK10 ?_)
      refine wc_block ?_
      refine wc_seq ?_; intro K12 hK12
      have hlt : p < n := by omega
      obtain ⟨x, z, st, hX⟩ : ∃ x z st, nodeX (.ok (b.drop p)) = ((x, z), st) := ⟨_, _, _, rfl⟩
      have hz8 : z < 256 := by have := (cok_nodeX (s := .ok (b.drop p)) (show 0 < 256 by omega)).1; rw [hX] at this; exact this
      have fx : x.Fit := by have := fit_nodeX (s := .ok (b.drop p)) (show (b.drop p).length ≤ 1000000 by rw [List.length_drop]; omega); rw [hX] at this; exact this
      refine wc_region ?_
      refine wl_y (y_move rfl) rfl ?_
      refine wl_y (y_move rfl) rfl ?_
      have hgR0 := R.lt
      refine wl_call Try.func12 rfl rfl rfl (rtake16_at p _ (J00.chs G).out hc (by omega) hp rfl rfl hX) rfl ?_
      rintro e w3 ⟨cs, nx, rfl, HW, hnx, ex⟩
      refine ⟨_, rfl, ?_⟩
      replace G := G.ext ex
      replace R := R.ext ex
      have HW2 := HW; obtain ⟨h0, h1, h2, h4, h5, p0, p1, p2, rfl, _⟩ := HW2; have hgR := R.lt; have JW : Kp w3.heap.size [g3] (fun w' => NodeS A n b wr.heap.size w' _ x) w3 := NodeS.kk HW (by simp; omega)
      refine wl_y (y_move rfl) rfl ?_
      refine wl_y (y_extract rfl rfl) rfl ?_
      refine wl_y (y_extract rfl rfl) rfl ?_
      refine wl_y (y_extract rfl rfl) rfl ?_
      refine wl_ef (ef_alloc (Z := #[.int .u8 0, .slice none 0 0, .slice none 0 0, .slice none 0 0, .int .u8 0, .slice none 0 0, .slice none 0 0, .slice none 0 0, .slice none 0 0, .slice none 0 0]) (by kernel_rfl)) rfl ?_
      rintro _ wA5 ⟨gB5, rfl, D5, hgB5, exA⟩
      refine wl_ef (ef_storeP (o := 0) rfl rfl (by kernel_rfl) D5 (Nat.le_of_ble_eq_true rfl) (all_ones rfl)) rfl ?_
      rintro _ wB5 ⟨rfl, B5, cg⟩
      have ex := exA.chg cg hgB5; clear cg exA D5
      have lB5 := B5.lt; have zB5 := ex.size
      replace G := G.ext ex
      replace R := R.ext ex
      replace JW := JW.ext ex
      refine wl_y (y_assign rfl) rfl ?_
      refine wl_y (y_assign rfl) rfl ?_
      refine wl_nil ?_
      refine wq_then_norm (hK12 ?_)
      refine wc_seq ?_; intro K13 hK13
      refine wc_region ?_
      refine wl_y (y_move rfl) rfl ?_
      have hgR1 := R.lt
      refine wl_call Try.func20 rfl rfl rfl (take16_at _ R hX) rfl ?_
      rintro e w4 ⟨cs2, rfl, HM, R2, ex⟩
      refine ⟨_, rfl, ?_⟩
      replace G := G.chs ex
      replace JW := JW.chs ex
      replace B5 := B5.chs ex
      have HM2 := HM; obtain ⟨i0, i1, i2, i4, i5, r0, r1, r2, rfl, _⟩ := HM2
      refine wl_y (y_move rfl) rfl ?_
      refine wl_y (y_extract rfl rfl) rfl ?_
      refine wl_y (y_extract rfl rfl) rfl ?_
      refine wl_ef (ef_alloc (Z := #[.int .u8 0, .slice none 0 0, .slice none 0 0, .slice none 0 0, .int .u8 0, .slice none 0 0, .slice none 0 0, .slice none 0 0, .slice none 0 0, .slice none 0 0]) (by kernel_rfl)) rfl ?_
      rintro _ wA8 ⟨gB8, rfl, D8, hgB8, exA⟩
      refine wl_ef (ef_storeP (o := 0) rfl rfl (by kernel_rfl) D8 (Nat.le_of_ble_eq_true rfl) (all_ones rfl)) rfl ?_
      rintro _ wB8 ⟨rfl, B8, cg⟩
      have ex := exA.chg cg hgB8; clear cg exA D8
      have lB8 := B8.lt; have zB8 := ex.size
      replace G := G.ext ex
      replace JW := JW.ext ex
      replace B5 := B5.ext ex
      replace R2 := R2.ext ex
      replace HM := HM.ext ex
      refine wl_y (y_assign rfl) rfl ?_
      refine wl_nil ?_
      refine wq_then_norm (hK13 ?_)
      refine wc_seq ?_; intro K14 hK14
      refine wc_seq ?_; intro K15 hK15
      refine wc_region ?_
      refine wl_y (y_move rfl) rfl ?_
      refine wl_y (y_conv rfl Try.underlying33 Try.underlying3 (i64_ok (by omega) (by omega))) rfl ?_
      refine wl_y (y_move rfl) rfl ?_
      refine wl_y (Y.as (y_neq rfl rfl) (congrArg Value.bool (decide_eq_false (by omega)))) rfl ?_
      refine wl_y (y_move rfl) rfl ?_
      refine wl_gy 41 rfl rfl (y_move rfl) rfl ?_
      refine wl_gyask 41 rfl rfl (y_eql rfl rfl) rfl (fun q0 => ?_) (fun q0 => ?_)
      · skip
        refine wl_gy 41 rfl rfl (y_move rfl) rfl ?_
        refine wl_gy 44 rfl rfl (y_loadw rfl Try.underlying30 rfl (by kernel_rfl) B8) rfl ?_
        refine wl_gy 44 rfl rfl (y_loadw rfl Try.underlying30 rfl (by kernel_rfl) B5) rfl ?_
        refine wl_gcall 44 rfl rfl Try.func14 rfl rfl rfl (rsame16_any _ HM.at (JW.out.at (J00.chs G).out) fx fx) rfl ?_
        rintro e w5 ⟨rfl, ex⟩
        refine ⟨_, rfl, ?_⟩
        replace G := G.ext ex
        replace JW := JW.ext ex
        replace B5 := B5.ext ex
        replace R2 := R2.ext ex
        replace HM := HM.ext ex
        replace B8 := B8.ext ex
        rw [decide_eq_true rfl]
        refine wl_gy 44 rfl rfl (y_not rfl) rfl ?_
        refine wl_gy 41 rfl rfl (y_pickt rfl rfl) rfl ?_
        refine wl_y (y_pickf rfl rfl) rfl ?_
        refine wl_nil ?_
        refine wq_then_norm (hK15 ?_)
        refine wc_false rfl rfl ?_
        refine wc_skip ?_
        refine wq_then_norm (hK14 ?_)
        refine wc_seq ?_; intro K16 hK16
        refine wc_seq ?_; intro K17 hK17
        refine wc_region ?_
        refine wl_y (y_move rfl) rfl ?_
        refine wl_y (y_neq rfl rfl) rfl ?_
        refine wl_nil ?_
        refine wq_then_norm (hK17 ?_)
        refine wc_no rfl (by omega) ?_
        refine wc_skip ?_
        refine wq_then_norm (hK16 ?_)
        refine wc_seq ?_; intro K18 hK18
        obtain rfl : z = 0 := by omega
        obtain ⟨hst, hnx2⟩ := hnx rfl
        rw [hst] at R2
        have hdec := nodeX_dec hX
        rw [hst] at hdec
        have hd1 : (b.drop nx).length < (b.drop p).length := hdec
        rw [List.length_drop, List.length_drop] at hd1
        refine wc_region ?_
        refine wl_y (y_move rfl) rfl ?_
        refine wl_y (y_assign rfl) rfl ?_
        refine wl_nil ?_
        refine wq_then_norm (hK18 ?_)
        refine wc_seq ?_; intro K19 hK19
        refine wc_region ?_
        refine wl_y (y_move rfl) rfl ?_
        refine wl_call Try.func19 rfl rfl rfl (rLeft_any _ R2) rfl ?_
        rintro e w7 ⟨rfl, ex⟩
        refine ⟨_, rfl, ?_⟩
        replace G := G.ext ex
        replace JW := JW.ext ex
        replace B5 := B5.ext ex
        replace R2 := R2.ext ex
        replace HM := HM.ext ex
        replace B8 := B8.ext ex
        skip
        refine wl_y (y_move rfl) rfl ?_
        refine wl_y (y_len_slice rfl Try.underlying22) rfl ?_
        refine wl_y (y_move rfl) rfl ?_
        refine wl_y (y_sub rfl rfl (i64_ok (by omega) (by omega))) rfl ?_
        refine wl_y (y_neq rfl rfl) rfl ?_
        refine wl_nil ?_
        refine wq_then_norm (hK19 ?_)
        refine wc_no rfl (by rw [List.length_drop]; omega) ?_
        refine wc_skip ?_
        refine wq_blk_norm ?_
        refine wq_then_norm ?_
        refine hL1 _ _ ⟨nx, rfl, rfl, hnx2, G, R2⟩ (by omega) ⟨rfl, rfl, (by first | rfl | exact congrArg some (int_val (by omega))), trivial⟩
      · skip
        refine wl_gy 41 rfl rfl (y_move rfl) rfl ?_
        refine wl_gno 44 rfl rfl rfl rfl ?_
        refine wl_gno 44 rfl rfl rfl rfl ?_
        refine wl_gno 44 rfl rfl rfl rfl ?_
        refine wl_gno 44 rfl rfl rfl rfl ?_
        refine wl_gy 41 rfl rfl (y_pickf rfl rfl) rfl ?_
        refine wl_y (y_pickf rfl rfl) rfl ?_
        refine wl_nil ?_
        refine wq_then_norm (hK15 ?_)
        refine wc_false rfl rfl ?_
        refine wc_skip ?_
        refine wq_then_norm (hK14 ?_)
        refine wc_seq ?_; intro K20 hK20
        refine wc_seq ?_; intro K21 hK21
        refine wc_region ?_
        refine wl_y (y_move rfl) rfl ?_
        refine wl_y (y_neq rfl rfl) rfl ?_
        refine wl_nil ?_
        refine wq_then_norm (hK21 ?_)
        refine wc_yes rfl (by omega) ?_
        refine wc_seq ?_; intro K22 hK22
        refine wc_region ?_
        refine wl_y (y_loadw rfl Try.underlying30 rfl (by kernel_rfl) B8) rfl ?_
        refine wl_y (y_build rfl (cells := zNodeV) (by kernel_rfl)) rfl ?_
        have hx0 := nodeX_zero hX (show z ≠ 0 by omega)
        refine wl_call Try.func14 rfl rfl rfl (rsame16_any _ HM.at (nodeAt_zero _) fx ⟨fit_zero, fit_par0⟩) rfl ?_
        rintro e w6 ⟨rfl, ex⟩
        refine ⟨_, rfl, ?_⟩
        replace G := G.ext ex
        replace JW := JW.ext ex
        replace B5 := B5.ext ex
        replace R2 := R2.ext ex
        replace HM := HM.ext ex
        replace B8 := B8.ext ex
        rw [decide_eq_true hx0]
        refine wl_y (y_assign rfl) rfl ?_
        refine wl_nil ?_
        refine wq_then_norm (hK22 ?_)
        refine wc_ret ?_
        refine wq_then_ret ?_
        refine wq_blk_ret ?_
        refine wq_then_ret ?_
        refine wq_blk_ret ?_
        refine wq_then_ret ?_
        refine hret rfl ?_
        exact ⟨rfl, ((F0.chs G).drop (by omega)).toExt (by simp)⟩
    · skip
      refine wc_exit ?_
      refine wq_then_exit ?_
      refine wq_then_exit ?_
      refine wq_blk_hit ?_
      refine wq_then_norm (hK9 ?_)
      refine wc_seq ?_; intro K23 hK23
      obtain rfl : p = n := by omega
      rw [List.drop_of_length_le (by omega)] at R
      refine wc_region ?_
      refine wl_call Try.func20 rfl rfl rfl (take16_nil _) rfl ?_
      rintro e w8 ⟨rfl, ex⟩
      refine ⟨_, rfl, ?_⟩
      replace G := G.ext ex
      replace R := R.ext ex
      have hgQ := R.lt
      refine wl_y (y_move rfl) rfl ?_
      refine wl_y (y_extract rfl rfl) rfl ?_
      refine wl_y (y_extract rfl rfl) rfl ?_
      refine wl_ef (ef_alloc (Z := #[.int .u8 0, .slice none 0 0, .slice none 0 0, .slice none 0 0, .int .u8 0, .slice none 0 0, .slice none 0 0, .slice none 0 0, .slice none 0 0, .slice none 0 0]) (by kernel_rfl)) rfl ?_
      rintro _ wA10 ⟨gB10, rfl, D10, hgB10, exA⟩
      refine wl_ef (ef_storeP (o := 0) rfl rfl (by kernel_rfl) D10 (Nat.le_of_ble_eq_true rfl) (all_ones rfl)) rfl ?_
      rintro _ wB10 ⟨rfl, B10, cg⟩
      have ex := exA.chg cg hgB10; clear cg exA D10
      have lB10 := B10.lt; have zB10 := ex.size
      replace G := G.ext ex
      replace R := R.ext ex
      refine wl_y (y_assign rfl) rfl ?_
      refine wl_nil ?_
      refine wq_then_norm (hK23 ?_)
      refine wc_seq ?_; intro K24 hK24
      refine wc_region ?_
      refine wl_y (y_move rfl) rfl ?_
      have hgR := R.lt
      refine wl_call Try.func20 rfl rfl rfl (take16_at _ R e4) rfl ?_
      rintro e w9 ⟨cs3, rfl, HM, R2, ex⟩
      refine ⟨_, rfl, ?_⟩
      replace G := G.chs ex
      replace B10 := B10.chs ex
      obtain ⟨i0, i1, i2, i4, i5, r0, r1, r2, rfl, _⟩ := HM
      refine wl_y (y_move rfl) rfl ?_
      refine wl_y (y_extract rfl rfl) rfl ?_
      refine wl_y (y_extract rfl rfl) rfl ?_
      refine wl_ef (ef_alloc (Z := #[.int .u8 0, .slice none 0 0, .slice none 0 0, .slice none 0 0, .int .u8 0, .slice none 0 0, .slice none 0 0, .slice none 0 0, .slice none 0 0, .slice none 0 0]) (by kernel_rfl)) rfl ?_
      rintro _ wA12 ⟨gB12, rfl, D12, hgB12, exA⟩
      refine wl_ef (ef_storeP (o := 0) rfl rfl (by kernel_rfl) D12 (Nat.le_of_ble_eq_true rfl) (all_ones rfl)) rfl ?_
      rintro _ wB12 ⟨rfl, B12, cg⟩
      have ex := exA.chg cg hgB12; clear cg exA D12
      have lB12 := B12.lt; have zB12 := ex.size
      replace G := G.ext ex
      replace B10 := B10.ext ex
      replace R2 := R2.ext ex
      refine wl_y (y_assign rfl) rfl ?_
      refine wl_nil ?_
      refine wq_then_norm (hK24 ?_)
      refine wc_seq ?_; intro K25 hK25
      refine wc_region ?_
      refine wl_y (y_move rfl) rfl ?_
      refine wl_y (y_conv rfl Try.underlying33 Try.underlying3 (show IntKind.i64.wrap 2 = 2 from rfl)) rfl ?_
      refine wl_y (Y.as (y_eql rfl rfl) (congrArg Value.bool (decide_eq_true rfl))) rfl ?_
      refine wl_y (y_move rfl) rfl ?_
      refine wl_gy 76 rfl rfl (y_move rfl) rfl ?_
      refine wl_gy 76 rfl rfl (y_conv rfl Try.underlying33 Try.underlying3 (show IntKind.i64.wrap 4 = 4 from rfl)) rfl ?_
      refine wl_gy 76 rfl rfl (Y.as (y_eql rfl rfl) (congrArg Value.bool (decide_eq_true rfl))) rfl ?_
      refine wl_y (y_pickt rfl rfl) rfl ?_
      refine wl_y (y_assign rfl) rfl ?_
      refine wl_nil ?_
      refine wq_then_norm (hK25 ?_)
      refine wc_ret ?_
      refine hret rfl ?_
      exact ⟨rfl, ((F0.chs G).drop (by omega)).toExt (by simp)⟩
end Go.Proofs.Ytopimmomkapdoaa
