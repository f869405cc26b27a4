/- Leaves and nodes that are taken of bytes at a place: what the reference answers. -/
import Derived.Test.YtpgalbgonmclaaaGreatNdF
import Derived.Test.YtpgalbgonmclaaaGreatNdC
namespace Go.Proofs.YtpgalbgonmclaaaGreat
open Go.RowKit
attribute [local irreducible] Y Ef WL WC WK WQ WM OpM WN WF OpN WJ OpJ
open Wire Nd
namespace Nd
def vecsX : Nat → St → List (List UInt8) × St
  | 0, s => ([], s)
  | k + 1, s => ((vecsX k s).1 ++ [(vecX (vecsX k s).2).1], (vecX (vecsX k s).2).2)
theorem vecsX_length : ∀ (k : Nat) (s : St), (vecsX k s).1.length = k
  | 0, _ => rfl
  | k + 1, s => by simp [vecsX, vecsX_length k s]
theorem vecsX_err {s : St} {i z : Nat} (h : (vecsX i s).2 = .error z) : ∀ {k : Nat}, i ≤ k → (vecsX k s).2 = .error z
  | 0, hk => (by (obtain rfl : i = 0 := (by omega)); exact h)
  | k + 1, hk => by
    by_cases e : i = k + 1
    · subst e; exact h
    · show (vecX (vecsX k s).2).2 = _
      rw [vecsX_err h (k := k) (by omega)]; rfl
theorem pVec_err {xs : List UInt8} {c : Nat} (h : pVec xs = .error c) : c ≠ 0 ∧ c < 256 := by
  unfold pVec at h
  cases hp : pLen xs with
  | error z => rw [hp] at h; injection h with h; subst h; exact pLen_err hp
  | ok p =>
    rw [hp] at h
    have h' : (if p.2.length < p.1 then (.error 4 : Except Nat (List UInt8 × List UInt8)) else .ok (p.2.take p.1, p.2.drop p.1)) = .error c := h
    split at h'
    · injection h' with h'; omega
    · cases h'
theorem vecX_ok (xs : List UInt8) : vecX (.ok xs) = match pVec xs with
    | .error c => ([], .error c)
    | .ok (v, r) => (v, .ok r) := rfl
theorem vecAt_st {b : List UInt8} {at_ : Nat} (hat : at_ ≤ b.length) : (vecX (.ok (b.drop at_))).1 = (vecAt b at_).1 ∧ ((vecAt b at_).2.2 = 0 → (vecX (.ok (b.drop at_))).2 = .ok (b.drop (vecAt b at_).2.1) ∧ (vecAt b at_).2.1 ≤ b.length) ∧ ((vecAt b at_).2.2 ≠ 0 → (vecX (.ok (b.drop at_))).2 = .error (vecAt b at_).2.2) := by
  rw [vecX_ok]
  cases hp : pVec (b.drop at_) with
  | error z =>
    have hz := pVec_err hp
    rw [vecAt_err hp]
    exact ⟨rfl, fun h => absurd h hz.1, fun _ => rfl⟩
  | ok p =>
    obtain ⟨v, r⟩ := p
    rw [vecAt_ok hp]
    obtain ⟨k, h1, h2, h3, h4⟩ := pVec_drop hp
    rw [List.length_drop] at h2
    refine ⟨rfl, fun _ => ⟨?_, Nat.sub_le _ _⟩, fun h => absurd rfl h⟩
    have hr : r.length = b.length - at_ - (k + v.length) := by rw [h3, List.length_drop, List.length_drop]
    show (.ok r : St) = .ok (b.drop (b.length - r.length))
    rw [show b.length - r.length = at_ + (k + v.length) by omega, h3, List.drop_drop]
def slen : St → Nat
  | .ok xs => xs.length
  | .error _ => 0
theorem vecX_le (s : St) : (vecX s).1.length ≤ slen s ∧ slen (vecX s).2 ≤ slen s := by
  cases s with
  | error c => exact ⟨Nat.le_refl _, Nat.le_refl _⟩
  | ok xs =>
    rw [vecX_ok]
    cases hp : pVec xs with
    | error c => exact ⟨Nat.zero_le _, Nat.zero_le _⟩
    | ok p =>
      obtain ⟨v, r⟩ := p
      obtain ⟨k, h1, h2, h3, h4⟩ := pVec_drop hp
      have hr : r.length = xs.length - (k + v.length) := by rw [h3, List.length_drop]
      exact ⟨show v.length ≤ xs.length by omega, show r.length ≤ xs.length by omega⟩
end Nd
theorem eltS2 : Elt Tryz.prog 145 22 24 := Elt.of Tryz.underlying145 (z := .slice none 0 0) (by kernel_rfl) rfl
/-- What 'vecs' hands back: some vectors that lie in the bytes, or an error. -/
def VecsR (A : Option Addr) (n : Nat) (b : List UInt8) (k : Nat) (s : St) (w w' : World) (e : Ending) : Prop :=
  ∃ A' m c' nx z vals, e = .returned (.tuple #[.slice A' m c', .int .i64 ((nx : Nat) : Int), .int .i64 ((z : Nat) : Int)]) ∧ Ext w w' ∧
    ((z = 0 ∧ (vecsX k s).2 = .ok (b.drop nx) ∧ nx ≤ n ∧ m = k ∧ At w' A' vals ∧ vals.length = k ∧ (∀ b o, A' = some ⟨b, o, none⟩ → w.heap.size ≤ b) ∧ ∀ j, j < k → ∃ h : Hd, vals[j]? = some (.slice h.A h.n h.c) ∧ Sub A n b h.A h.n ((vecsX k s).1.getD j [])) ∨ (z ≠ 0 ∧ (vecsX k s).2 = .error z))
theorem rvecs_any {A : Option Addr} {n c at_ : Nat} {b : List UInt8} (k : Nat) (w : World) (HA : Bs w A n b) (hc : n ≤ c) (hn : n ≤ 1000000) (hat : at_ ≤ n) (hk : k ≤ 100) :
    Calls Tryz.prog 145 #[.slice A n c, .int .i64 (at_ : Int), .int .i64 (k : Int)] w fun e w' => VecsR A n b k (.ok (b.drop at_)) w w' e := by
  have hbl := HA.1
  refine vc_enter3 39 Tryz.func145 rfl rfl rfl rfl ?_
  intro Q hret
  refine wc_seq ?_; intro K1 hK1
  refine wc_region ?_
  refine wl_y (y_assign rfl) rfl ?_
  refine wl_y (y_assign rfl) rfl ?_
  refine wl_y (y_assign rfl) rfl ?_
  refine wl_nil ?_
  refine wq_then_norm (hK1 ?_)
  refine wc_seq ?_; intro K2 hK2
  refine wc_region ?_
  refine wl_y (y_assign rfl) rfl ?_
  refine wl_nil ?_
  refine wq_then_norm (hK2 ?_)
  refine wc_seq ?_; intro K3 hK3
  refine wc_seq ?_; intro K4 hK4
  refine wc_region ?_
  refine wl_y (y_assign rfl) rfl ?_
  refine wl_nil ?_
  refine wq_then_norm (hK4 ?_)
  refine wc_block ?_
  refine wc_loop (fun n' L wr => ∃ (i p c9 : Nat) (A9 : Option Addr) (vals : List Value), L = [(0, .slice A n c), (1, .int .i64 (p : Int)), (2, .int .i64 (k : Int)), (9, .slice A9 i c9), (10, .int .i64 (i : Int))] ∧ n' = k - i ∧ (i ≤ k ∧ p ≤ n ∧ (vecsX i (.ok (b.drop at_))).2 = .ok (b.drop p) ∧ Row wr w.heap.size 22 A9 i c9 vals ∧ (∀ j, j < i → ∃ h : Hd, vals[j]? = some (.slice h.A h.n h.c) ∧ Sub A n b h.A h.n ((vecsX i (.ok (b.drop at_))).1.getD j [])) ∧ Ext w wr)) _ _ ⟨0, at_, 0, none, [], rfl, rfl, by omega, hat, rfl, Row.empty _ _ _, by intro j hj; omega, Ext.refl _⟩ ⟨rfl, (by first | rfl | exact congrArg some (int_val (by omega))), (by first | rfl | exact congrArg some (int_val (by omega))), rfl, (by first | rfl | exact congrArg some (int_val (by omega))), trivial⟩ ?_
  rintro KL1 n' L wr ⟨i, p, c9, A9, vals, rfl, rfl, hi, hp, hst, R, hv, E⟩ hL1
  refine wc_seq ?_; intro K5 hK5
  refine wc_seq ?_; intro K6 hK6
  refine wc_region ?_
  refine wl_y (y_move rfl) rfl ?_
  refine wl_y (y_move rfl) rfl ?_
  refine wl_y (y_lss rfl rfl) rfl ?_
  refine wl_nil ?_
  refine wq_then_norm (hK6 ?_)
  refine wc_dec rfl (fun hc1 => ?_) (fun hc1 => ?_)
  · skip
    refine wc_skip ?_
    refine wq_then_norm (hK5 ?_)
    refine wc_seq ?_; intro K7 hK7
    refine wc_block ?_
    refine wc_seq ?_; intro K8 hK8
    have hik : i < k := by omega
    obtain ⟨t1, t2, t3⟩ := vecAt_st (b := b) (at_ := p) (by omega)
    refine wc_region ?_
    refine wl_y (y_move rfl) rfl ?_
    refine wl_y (y_move rfl) rfl ?_
    refine wl_y (y_build rfl (cells := itemV 1 0 0 nilH) (by kernel_rfl)) rfl ?_
    refine wl_call Tryz.func106 rfl rfl rfl (rtakeV_any _ (HA.ext E) hc hn hp) rfl ?_
    rintro e w1 ⟨h1, rfl, hsub, hcap, ex⟩
    refine ⟨_, rfl, ?_⟩
    replace E := E.ext ex
    replace R := R.ext ex
    skip
    refine wl_y (y_move rfl) rfl ?_
    refine wl_y (y_extract rfl rfl) rfl ?_
    refine wl_y (y_extract rfl rfl) rfl ?_
    refine wl_y (y_extract rfl rfl) rfl ?_
    refine wl_ef (ef_alloc (Z := #[.int .i64 0, .int .i64 0, .int .u64 0, .slice none 0 0, .slice none 0 0]) (by kernel_rfl)) rfl ?_
    rintro _ wA11 ⟨gB11, rfl, D11, hgB11, exA⟩
    refine wl_ef (ef_storeP (o := 0) rfl rfl (by kernel_rfl) D11 (Nat.le_of_ble_eq_true rfl) (all_ones rfl)) rfl ?_
    rintro _ wB11 ⟨rfl, B11, cg⟩
    have ex := exA.chg cg hgB11; clear cg exA D11
    have lB11 := B11.lt; have zB11 := ex.size
    replace E := E.ext ex
    replace R := R.ext ex
    replace B11 := B11.congr (cs' := itemV 1 0 0 h1) rfl
    refine wl_y (y_assign rfl) rfl ?_
    refine wl_y (y_assign rfl) rfl ?_
    refine wl_nil ?_
    refine wq_then_norm (hK8 ?_)
    refine wc_seq ?_; intro K9 hK9
    refine wc_seq ?_; intro K10 hK10
    refine wc_region ?_
    refine wl_y (y_move rfl) rfl ?_
    refine wl_y (y_neq rfl rfl) rfl ?_
    refine wl_nil ?_
    refine wq_then_norm (hK10 ?_)
    refine wc_dec rfl (fun hc2 => ?_) (fun hc2 => ?_)
    · skip
      refine wc_seq ?_; intro K11 hK11
      refine wc_region ?_
      refine wl_y (y_move rfl) rfl ?_
      refine wl_y (y_move rfl) rfl ?_
      refine wl_y (y_assign rfl) rfl ?_
      refine wl_y (y_assign rfl) rfl ?_
      refine wl_y (y_assign rfl) rfl ?_
      refine wl_nil ?_
      refine wq_then_norm (hK11 ?_)
      refine wc_ret ?_
      refine wq_then_ret ?_
      refine wq_blk_ret ?_
      refine wq_then_ret ?_
      refine wq_then_ret ?_
      refine wq_blk_ret ?_
      refine wq_then_ret ?_
      refine hret rfl rfl rfl ?_
      exact ⟨none, 0, 0, p, _, [], rfl, E, .inr ⟨by omega, vecsX_err (i := i + 1) (by show (vecX (vecsX i _).2).2 = _; rw [hst]; exact t3 (by omega)) (by omega)⟩⟩
    · skip
      refine wc_skip ?_
      refine wq_then_norm (hK9 ?_)
      refine wc_seq ?_; intro K12 hK12
      have hz0 : (vecAt b p).2.2 = 0 := by omega
      obtain ⟨t4, t5⟩ := t2 hz0
      have hRl := R.len
      refine wc_region ?_
      refine wl_y (y_move rfl) rfl ?_
      refine wl_y (y_fieldAddr (o := 3) (s := 1) (off := 0) (o' := 3) rfl Tryz.underlying147 rfl (by kernel_rfl) rfl rfl) rfl ?_
      refine wl_y (y_load1 rfl Tryz.underlying22 rfl (B11.get (i := 3) rfl)) rfl ?_
      refine wl_ef (ef_lit (z := .slice none 0 0) Tryz.underlying145 (by kernel_rfl) rfl rfl rfl rfl rfl) rfl ?_
      rintro _ w3 ⟨g3, rfl, B3, hg3, ex⟩
      replace E := E.ext ex
      replace R := R.ext ex
      replace B11 := B11.ext ex
      have hz3 := E.size
      refine wl_ef (ef_app rfl rfl eltS2 R (At.blk (vs := [.slice h1.A h1.n h1.c]) B3) rfl (by intro u hu; simp only [List.mem_singleton] at hu; subst hu; rfl) (by omega) (by omega) hz3) rfl ?_
      rintro _ w4 ⟨A4, c4, rfl, R4, be, gr, hgl⟩
      replace E := E.trans be
      refine wl_y (y_assign rfl) rfl ?_
      refine wl_nil ?_
      refine wq_then_norm (hK12 ?_)
      refine wc_region ?_
      refine wl_y (y_move rfl) rfl ?_
      refine wl_y (y_assign rfl) rfl ?_
      refine wl_nil ?_
      refine wq_blk_norm ?_
      refine wq_then_norm (hK7 ?_)
      refine wc_region ?_
      refine wl_y (y_move rfl) rfl ?_
      refine wl_y (y_add rfl rfl (i64_ok (by omega) (by omega))) rfl ?_
      refine wl_y (y_assign rfl) rfl ?_
      refine wl_nil ?_
      refine wq_then_norm ?_
      refine hL1 _ _ ⟨i + 1, (vecAt b p).2.1, c4, A4, vals ++ [.slice h1.A h1.n h1.c], rfl, rfl, by omega, by omega, by show (vecX (vecsX i _).2).2 = _; rw [hst]; exact t4, R4, fun j hj => by
        show ∃ h : Hd, _ ∧ Sub A n b h.A h.n (((vecsX i _).1 ++ [(vecX (vecsX i _).2).1]).getD j [])
        have hvl := vecsX_length i (.ok (b.drop at_))
        by_cases hji : j < i
        · obtain ⟨h, h1, h2⟩ := hv j hji
          refine ⟨h, by rw [List.getElem?_append_left (by omega)]; exact h1, ?_⟩
          rw [List.getD_eq_getElem?_getD, List.getElem?_append_left (by omega), ← List.getD_eq_getElem?_getD]
          exact h2
        · obtain rfl : j = i := by omega
          refine ⟨h1, by rw [List.getElem?_append_right (by omega)]; simp [hRl], ?_⟩
          rw [List.getD_eq_getElem?_getD, List.getElem?_append_right (by omega), hvl, Nat.sub_self, hst]
          show Sub A n b h1.A h1.n (vecX (.ok (b.drop p))).1
          rw [t1]; exact hsub, E⟩ (by omega) ⟨rfl, (by first | rfl | exact congrArg some (int_val (by omega))), (by first | rfl | exact congrArg some (int_val (by omega))), rfl, (by first | rfl | exact congrArg some (int_val (by omega))), trivial⟩
  · skip
    refine wc_exit ?_
    refine wq_then_exit ?_
    refine wq_then_exit ?_
    refine wq_blk_hit ?_
    refine wq_then_norm (hK3 ?_)
    refine wc_seq ?_; intro K13 hK13
    refine wc_region ?_
    refine wl_y (y_move rfl) rfl ?_
    refine wl_y (y_move rfl) rfl ?_
    refine wl_y (y_assign rfl) rfl ?_
    refine wl_y (y_assign rfl) rfl ?_
    refine wl_y (y_assign rfl) rfl ?_
    refine wl_nil ?_
    refine wq_then_norm (hK13 ?_)
    refine wc_ret ?_
    refine hret rfl rfl rfl ?_
    obtain rfl : i = k := by omega
    exact ⟨A9, i, c9, p, 0, vals, rfl, E, .inl ⟨rfl, hst, hp, rfl, R.at, R.len, fun b o e => by subst e; exact (Row.lt R).1, hv⟩⟩
/-- A leaf whose slices lie in given bytes. -/
def LeafS (A : Option Addr) (n : Nat) (b : List UInt8) (cs : Array Value) (l : Leaf) : Prop := LeafC (fun h xs => Sub A n b h.A h.n xs) cs l
theorem LeafS.at {A : Option Addr} {n : Nat} {b : List UInt8} {cs : Array Value} {l : Leaf} {w : World} (h : LeafS A n b cs l) (HA : Bs w A n b) : LeafAt w cs l := LeafC.imp h fun _ _ s => s w HA
theorem Sub.nil (A : Option Addr) (n : Nat) (b : List UInt8) : Sub A n b none 0 [] := fun w _ => Bs.nil w _
theorem LeafS.zero (A : Option Addr) (n : Nat) (b : List UInt8) : LeafS A n b zLeafV Leaf.zero := ⟨nilH, nilH, nilH, nilH, nilH, rfl, by decide, Sub.nil _ _ _, Sub.nil _ _ _, Sub.nil _ _ _, Sub.nil _ _ _, Sub.nil _ _ _⟩
theorem numX1_at {b : List UInt8} {p : Nat} (h : p < b.length) : numX 1 (.ok (b.drop p)) = ((b.getD p 0).toNat, .ok (b.drop (p + 1))) := by
  rw [numX_ok, if_neg (by rw [List.length_drop]; omega), drop_cons h]
  simp [nb]
theorem numX1_end {b : List UInt8} {p : Nat} (h : b.length ≤ p) : numX 1 (.ok (b.drop p)) = (0, .error 4) := by
  rw [numX_ok, if_pos (by rw [List.length_drop]; omega)]
theorem At.slot {w : World} {A : Option Addr} {vals : List Value} {j : Nat} {v : Value} (h : At w A vals) (hj : vals[j]? = some v) : ∃ bb oo, A = some ⟨bb, oo, none⟩ ∧ w.cell? ⟨bb, oo + j, none⟩ = some v := by
  rcases h with h | ⟨b, o, hA, hc⟩
  · subst h; cases hj
  · exact ⟨b, o, hA, hc _ _ hj⟩
set_option maxHeartbeats 1000000 in
theorem rtakeLeaf_any {A : Option Addr} {n c at_ : Nat} {b : List UInt8} {s : St} (w : World) (HA : Bs w A n b) (hc : n ≤ c) (hn : n ≤ 1000000) (hat : at_ ≤ n) (hs : s = .ok (b.drop at_)) :
    Calls Tryz.prog 127 #[.slice A n c, .int .i64 (at_ : Int)] w fun e w' => ∃ cs nx, e = .returned (.tuple #[.agg cs, .int .i64 ((nx : Nat) : Int), .int .i64 (((leafX s).1.2 : Nat) : Int)]) ∧ LeafS A n b cs (leafX s).1.1 ∧ ((leafX s).1.2 = 0 → (leafX s).2 = .ok (b.drop nx) ∧ nx ≤ n) ∧ Ext w w' := by
  have F := Chs.refl [] w
  have J0 : Kp w.heap.size [] (fun w => Bs w A n b) w := Kp.bs HA (by simp)
  have hbl := HA.1
  have l30 : (vecsX 3 s).2 = lf3 s := rfl
  refine vc_enterctt (s := 6) 97 Tryz.func127 rfl rfl rfl Tryz.underlying25 rfl (by kernel_rfl) rfl ?_
  intro Q hret
  refine wc_seq ?_; intro K1 hK1
  refine wc_region ?_
  refine wl_ef (ef_alloc (Z := #[.slice none 0 0, .slice none 0 0, .slice none 0 0, .int .u8 0, .slice none 0 0, .slice none 0 0]) (by kernel_rfl)) rfl ?_
  rintro _ wB4 ⟨gB4, rfl, B4, hgB4, ex⟩
  have lB4 := B4.lt; have zB4 := ex.size
  replace F := F.grow ex hgB4
  replace J0 := J0.grow ex hgB4
  refine wl_y (y_assign rfl) rfl ?_
  refine wl_y (y_assign rfl) rfl ?_
  refine wl_nil ?_
  refine wq_then_norm (hK1 ?_)
  refine wc_seq ?_; intro K2 hK2
  refine wc_region ?_
  refine wl_y (y_move rfl) rfl ?_
  refine wl_y (y_move rfl) rfl ?_
  have z0 := F.size
  refine wl_call Tryz.func145 rfl rfl rfl (rvecs_any 3 _ J0.out hc hn hat (by omega)) rfl ?_
  rintro e w1 ⟨A1, m1, c1, nx1, z1, vals1, rfl, ex, hR⟩
  refine ⟨_, rfl, ?_⟩
  replace F := F.ext ex
  replace J0 := J0.ext ex
  replace B4 := B4.ext ex
  rw [← hs, l30] at hR
  refine wl_y (y_move rfl) rfl ?_
  refine wl_y (y_extract rfl rfl) rfl ?_
  refine wl_y (y_extract rfl rfl) rfl ?_
  refine wl_y (y_extract rfl rfl) rfl ?_
  refine wl_y (y_assign rfl) rfl ?_
  refine wl_y (y_assign rfl) rfl ?_
  refine wl_y (y_assign rfl) rfl ?_
  refine wl_nil ?_
  refine wq_then_norm (hK2 ?_)
  refine wc_seq ?_; intro K3 hK3
  refine wc_seq ?_; intro K4 hK4
  refine wc_region ?_
  refine wl_y (y_move rfl) rfl ?_
  refine wl_y (y_neq rfl rfl) rfl ?_
  refine wl_nil ?_
  refine wq_then_norm (hK4 ?_)
  refine wc_dec rfl (fun hc1 => ?_) (fun hc1 => ?_)
  · skip
    obtain ⟨hz, he⟩ := hR.resolve_left (fun h => hc1 (by rw [h.1]; rfl))
    have e1 : leafX s = ((Leaf.zero, z1), lf4 s) := by
      have e4 : lf4 s = .error z1 := by unfold lf4; rw [he]; rfl
      unfold leafX
      rw [e4, if_pos (show ecode (Except.error z1 : St) ≠ 0 from hz)]
      rfl
    refine wc_seq ?_; intro K5 hK5
    refine wc_region ?_
    refine wl_y (y_build rfl (cells := zLeafV) (by kernel_rfl)) rfl ?_
    refine wl_y (y_move rfl) rfl ?_
    refine wl_y (y_move rfl) rfl ?_
    refine wl_ef (ef_storeP (o := 0) rfl rfl (by kernel_rfl) B4 (Nat.le_of_ble_eq_true rfl) (all_ones rfl)) rfl ?_
    rintro _ wS3_3 ⟨rfl, D, cg⟩
    have ex := Chs.one cg
    clear cg
    replace F := F.chs ex
    replace J0 := J0.chs ex
    replace B4 := D; clear D
    replace B4 := B4.congr (cs' := zLeafV) rfl
    refine wl_y (y_assign rfl) rfl ?_
    refine wl_y (y_assign rfl) rfl ?_
    refine wl_nil ?_
    refine wq_then_norm (hK5 ?_)
    refine wc_ret ?_
    refine wq_then_ret ?_
    refine hret rfl rfl rfl B4 rfl ?_
    rw [e1]; exact ⟨zLeafV, at_, rfl, LeafS.zero _ _ _, fun h => absurd h hz, (F.drop (by omega)).toExt (by simp)⟩
  · skip
    obtain ⟨rfl, hst, hnx, rfl, hAt, hvl, hfr, hv⟩ := hR.resolve_right (fun h => h.1 (by omega))
    have m4 := B4.lt
    have JV : Kp w1.heap.size [gB4] (fun w => At w A1 vals1) w1 := Kp.at hAt (fun _ g hg o e => by simp at hg; subst hg; have := hfr _ _ e; omega)
    refine wc_skip ?_
    refine wq_then_norm (hK3 ?_)
    refine wc_seq ?_; intro K6 hK6
    refine wc_seq ?_; intro K7 hK7
    refine wc_region ?_
    refine wl_y (y_move rfl) rfl ?_
    refine wl_y (y_move rfl) rfl ?_
    refine wl_y (y_len_slice rfl Tryz.underlying22) rfl ?_
    refine wl_y (y_geq rfl rfl) rfl ?_
    refine wl_nil ?_
    refine wq_then_norm (hK7 ?_)
    refine wc_dec rfl (fun hc2 => ?_) (fun hc2 => ?_)
    · skip
      have e1 : leafX s = ((Leaf.zero, 4), .error 4) := by
        have e4 : lf4 s = .error 4 := by unfold lf4; rw [hst, numX1_end (by omega)]
        unfold leafX
        rw [e4, if_pos (show ecode (Except.error 4 : St) ≠ 0 from (show (4 : Nat) ≠ 0 by omega))]
        rfl
      refine wc_seq ?_; intro K8 hK8
      refine wc_region ?_
      refine wl_y (y_build rfl (cells := zLeafV) (by kernel_rfl)) rfl ?_
      refine wl_y (y_move rfl) rfl ?_
      refine wl_ef (ef_storeP (o := 0) rfl rfl (by kernel_rfl) B4 (Nat.le_of_ble_eq_true rfl) (all_ones rfl)) rfl ?_
      rintro _ wS5_2 ⟨rfl, D, cg⟩
      have ex := Chs.one cg
      clear cg
      replace F := F.chs ex
      replace J0 := J0.chs ex
      replace JV := JV.chs ex
      replace B4 := D; clear D
      replace B4 := B4.congr (cs' := zLeafV) rfl
      refine wl_y (y_assign rfl) rfl ?_
      refine wl_y (y_assign rfl) rfl ?_
      refine wl_nil ?_
      refine wq_then_norm (hK8 ?_)
      refine wc_ret ?_
      refine wq_then_ret ?_
      refine hret rfl rfl rfl B4 rfl ?_
      rw [e1]; exact ⟨zLeafV, at_, rfl, LeafS.zero _ _ _, fun h => absurd h (show (4 : Nat) ≠ 0 by omega), (F.drop (by omega)).toExt (by simp)⟩
    · skip
      refine wc_skip ?_
      refine wq_then_norm (hK6 ?_)
      refine wc_seq ?_; intro K9 hK9
      obtain ⟨h0, v0, s0⟩ := hv 0 (by omega)
      obtain ⟨h1, v1, s1⟩ := hv 1 (by omega)
      obtain ⟨h2, v2, s2⟩ := hv 2 (by omega)
      obtain ⟨bb, oo, rfl, _, hcv0⟩ := JV.out.get (k := 0) (by omega)
      obtain ⟨x, hx⟩ : ∃ x, x = (b.getD nx1 0).toNat := ⟨_, rfl⟩
      have hx8 : x < 256 := hx ▸ UInt8.toNat_lt _
      obtain ⟨b0, o0, rfl, _, _⟩ := J0.out.get (k := nx1) (by omega)
      have esrc : src s = x := by unfold src; rw [hst, numX1_at (by omega), hx]
      have e4 : lf4 s = .ok (b.drop (nx1 + 1)) := by unfold lf4; rw [hst, numX1_at (by omega)]
      have vget : ∀ {wr : World} {j : Nat} {v : Value}, At wr (some ⟨bb, oo, none⟩) vals1 → vals1[j]? = some v → wr.cell? ⟨bb, oo + j, none⟩ = some v := fun H hj => by
        rcases H with H | ⟨b', o', e, hc⟩
        · subst H; cases hj
        · injection e with e
          injection e with e1 e2 _
          subst e1; subst e2
          exact hc _ _ hj
      have bget : ∀ {wr : World}, Bs wr (some ⟨b0, o0, none⟩) n b → wr.cell? ⟨b0, o0 + nx1, none⟩ = some (.int .u8 (x : Int)) := fun H => by
        obtain ⟨b', o', e, _, hc⟩ := H.get (k := nx1) (by omega)
        injection e with e
        injection e with e1 e2 _
        subst e1; subst e2
        rw [hc, hx]
      refine wc_draw (by kernel_rfl) 16 rfl ?_; intro wd6 ex hd6
      replace F := F.ext ex
      replace J0 := J0.ext ex
      replace B4 := B4.ext ex
      replace JV := JV.ext ex
      refine wm_z 0 rfl (by kernel_rfl) (fun _ => y_move rfl) rfl ?_
      refine wm_z 1 rfl (by kernel_rfl) (fun _ => y_ixs1 rfl rfl Tryz.underlying145 (by kernel_rfl) (j := 0) rfl (by omega)) rfl ?_
      refine wm_y 2 rfl (by kernel_rfl) (y_load1 rfl Tryz.underlying22 rfl (vget JV.out v0)) rfl ?_
      refine wm_z 3 rfl (by kernel_rfl) (fun _ => y_move rfl) rfl ?_
      refine wm_z 4 rfl (by kernel_rfl) (fun _ => y_ixs1 rfl rfl Tryz.underlying145 (by kernel_rfl) (j := 1) rfl (by omega)) rfl ?_
      refine wm_y 5 rfl (by kernel_rfl) (y_load1 rfl Tryz.underlying22 rfl (vget JV.out v1)) rfl ?_
      refine wm_z 6 rfl (by kernel_rfl) (fun _ => y_move rfl) rfl ?_
      refine wm_z 7 rfl (by kernel_rfl) (fun _ => y_ixs1 rfl rfl Tryz.underlying145 (by kernel_rfl) (j := 2) rfl (by omega)) rfl ?_
      refine wm_y 8 rfl (by kernel_rfl) (y_load1 rfl Tryz.underlying22 rfl (vget JV.out v2)) rfl ?_
      refine wm_z 9 rfl (by kernel_rfl) (fun _ => y_move rfl) rfl ?_
      refine wm_z 10 rfl (by kernel_rfl) (fun _ => y_move rfl) rfl ?_
      refine wm_z 11 rfl (by kernel_rfl) (fun _ => y_ixs1 rfl rfl Tryz.underlying22 (by kernel_rfl) rfl (by omega)) rfl ?_
      refine wm_y 12 rfl (by kernel_rfl) (y_load1 rfl Tryz.underlying5 rfl (bget J0.out)) rfl ?_
      refine wm_z 13 rfl (by kernel_rfl) (fun _ => y_build rfl (cells := leafV h0 h1 h2 x nilH nilH) (by kernel_rfl)) rfl ?_
      refine wm_one 14 (by kernel_rfl) ?_; refine om_ef rfl (ef_alloc (Z := #[.slice none 0 0, .slice none 0 0, .slice none 0 0, .int .u8 0, .slice none 0 0, .slice none 0 0]) (by kernel_rfl)) rfl ?_
      rintro _ wB10 ⟨gB10, rfl, B10, hgB10, ex⟩
      refine ⟨.inr ex, ?_⟩
      have lB10 := B10.lt; have zB10 := ex.size
      have nB4_10 : gB4 < gB10 := Nat.lt_of_lt_of_le B4.lt hgB10
      replace F := F.grow ex hgB10
      replace J0 := J0.grow ex hgB10
      replace B4 := B4.grow ex hgB10
      replace JV := JV.grow ex hgB10
      refine wm_one 15 (by kernel_rfl) ?_; refine om_ef rfl (ef_storeP (o := 0) rfl rfl (by kernel_rfl) B10 (Nat.le_of_ble_eq_true rfl) (all_ones rfl)) rfl ?_
      rintro _ wS6_15 ⟨rfl, D, cg⟩
      have ex := Chs.one cg
      clear cg
      refine ⟨.inl rfl, ?_⟩
      replace F := F.chs ex
      replace J0 := J0.chs ex
      replace B4 := B4.chs ex
      replace JV := JV.chs ex
      replace B10 := D; clear D
      replace B10 := B10.congr (cs' := leafV h0 h1 h2 x nilH nilH) rfl
      refine wm_done (by kernel_rfl) ?_
      refine wq_nop ?_
      refine wq_then_norm (hK9 ?_)
      refine wc_seq ?_; intro K10 hK10
      refine wc_seq ?_; intro K11 hK11
      refine wc_region ?_
      refine wl_y (y_fieldAddr (o := 3) (s := 1) (off := 0) (o' := 3) rfl Tryz.underlying25 rfl (by kernel_rfl) rfl rfl) rfl ?_
      refine wl_y (y_load1 rfl Tryz.underlying5 rfl (B10.get (i := 3) rfl)) rfl ?_
      refine wl_yask (y_eql rfl rfl) rfl (fun u1 => ?_) (fun u1 => ?_)
      · skip
        refine wl_y (y_move rfl) rfl ?_
        refine wl_gno 46 rfl rfl rfl rfl ?_
        refine wl_gno 46 rfl rfl rfl rfl ?_
        refine wl_gno 46 rfl rfl rfl rfl ?_
        refine wl_y (y_pickt rfl rfl) rfl ?_
        refine wl_nil ?_
        refine wq_then_norm (hK11 ?_)
        refine wc_true rfl rfl ?_
        refine wc_seq ?_; intro K12 hK12
        have e5 : leafX s = ((Leaf.zero, 3), lf4 s) := by unfold leafX; rw [if_neg (by rw [e4]; exact fun h => h rfl), if_pos (by omega)]
        refine wc_region ?_
        refine wl_y (y_build rfl (cells := zLeafV) (by kernel_rfl)) rfl ?_
        refine wl_y (y_move rfl) rfl ?_
        refine wl_ef (ef_storeP (o := 0) rfl rfl (by kernel_rfl) B4 (Nat.le_of_ble_eq_true rfl) (all_ones rfl)) rfl ?_
        rintro _ wS8_2 ⟨rfl, D, cg⟩
        have ex := Chs.one cg
        clear cg
        replace F := F.chs ex
        replace J0 := J0.chs ex
        replace JV := JV.chs ex
        replace B10 := B10.chs ex
        replace B4 := D; clear D
        replace B4 := B4.congr (cs' := zLeafV) rfl
        refine wl_y (y_assign rfl) rfl ?_
        refine wl_y (y_assign rfl) rfl ?_
        refine wl_nil ?_
        refine wq_then_norm (hK12 ?_)
        refine wc_ret ?_
        refine wq_then_ret ?_
        refine hret rfl rfl rfl B4 rfl ?_
        rw [e5]; exact ⟨zLeafV, at_, rfl, LeafS.zero _ _ _, fun h => absurd h (show (3 : Nat) ≠ 0 by omega), ((F.drop (by omega)).drop (by omega)).toExt (by simp)⟩
      · skip
        refine wl_y (y_move rfl) rfl ?_
        refine wl_gy 46 rfl rfl (y_fieldAddr (o := 3) (s := 1) (off := 0) (o' := 3) rfl Tryz.underlying25 rfl (by kernel_rfl) rfl rfl) rfl ?_
        refine wl_gy 46 rfl rfl (y_load1 rfl Tryz.underlying5 rfl (B10.get (i := 3) rfl)) rfl ?_
        refine wl_gyask 46 rfl rfl (y_gtr rfl rfl) rfl (fun u2 => ?_) (fun u2 => ?_)
        · skip
          refine wl_y (y_pickf rfl rfl) rfl ?_
          refine wl_nil ?_
          refine wq_then_norm (hK11 ?_)
          refine wc_true rfl rfl ?_
          refine wc_seq ?_; intro K13 hK13
          have e5 : leafX s = ((Leaf.zero, 3), lf4 s) := by unfold leafX; rw [if_neg (by rw [e4]; exact fun h => h rfl), if_pos (by omega)]
          refine wc_region ?_
          refine wl_y (y_build rfl (cells := zLeafV) (by kernel_rfl)) rfl ?_
          refine wl_y (y_move rfl) rfl ?_
          refine wl_ef (ef_storeP (o := 0) rfl rfl (by kernel_rfl) B4 (Nat.le_of_ble_eq_true rfl) (all_ones rfl)) rfl ?_
          rintro _ wS8_2 ⟨rfl, D, cg⟩
          have ex := Chs.one cg
          clear cg
          replace F := F.chs ex
          replace J0 := J0.chs ex
          replace JV := JV.chs ex
          replace B10 := B10.chs ex
          replace B4 := D; clear D
          replace B4 := B4.congr (cs' := zLeafV) rfl
          refine wl_y (y_assign rfl) rfl ?_
          refine wl_y (y_assign rfl) rfl ?_
          refine wl_nil ?_
          refine wq_then_norm (hK13 ?_)
          refine wc_ret ?_
          refine wq_then_ret ?_
          refine hret rfl rfl rfl B4 rfl ?_
          rw [e5]; exact ⟨zLeafV, at_, rfl, LeafS.zero _ _ _, fun h => absurd h (show (3 : Nat) ≠ 0 by omega), ((F.drop (by omega)).drop (by omega)).toExt (by simp)⟩
        · skip
          refine wl_y (y_pickf rfl rfl) rfl ?_
          refine wl_nil ?_
          refine wq_then_norm (hK11 ?_)
          refine wc_false rfl rfl ?_
          refine wc_skip ?_
          refine wq_then_norm (hK10 ?_)
          refine wc_seq ?_; intro K14 hK14
          have n1 : ¬ ecode (lf4 s) ≠ 0 := by rw [e4]; exact fun h => h rfl
          have n2 : ¬ (src s < 1 ∨ 3 < src s) := by omega
          refine wc_region ?_
          refine wl_y (y_move rfl) rfl ?_
          refine wl_y (y_add rfl rfl (i64_pos (n := nx1 + 1) (by omega) (by omega))) rfl ?_
          refine wl_y (y_assign rfl) rfl ?_
          refine wl_nil ?_
          refine wq_then_norm (hK14 ?_)
          refine wc_seq ?_; intro K15 hK15
          refine wc_seq ?_; intro K16 hK16
          refine wc_region ?_
          refine wl_y (y_fieldAddr (o := 3) (s := 1) (off := 0) (o' := 3) rfl Tryz.underlying25 rfl (by kernel_rfl) rfl rfl) rfl ?_
          refine wl_y (y_load1 rfl Tryz.underlying5 rfl (B10.get (i := 3) rfl)) rfl ?_
          refine wl_y (y_eql rfl rfl) rfl ?_
          refine wl_nil ?_
          refine wq_then_norm (hK16 ?_)
          refine wc_dec rfl (fun hc4 => ?_) (fun hc4 => ?_)
          · skip
            have e6 : leafP s = vecX (lf4 s) := by unfold leafP; rw [if_pos (by omega)]
            refine wc_seq ?_; intro K17 hK17
            refine wc_region ?_
            refine wl_y (y_move rfl) rfl ?_
            refine wl_y (y_move rfl) rfl ?_
            refine wl_call Tryz.func145 rfl rfl rfl (rvecs_any 1 _ J0.out hc hn (show nx1 + 1 ≤ n by omega) (by omega)) rfl ?_
            rintro e w2 ⟨A2, m2, c2, nx2, z2, vals2, rfl, ex, hR2⟩
            refine ⟨_, rfl, ?_⟩
            replace F := F.ext ex
            replace J0 := J0.ext ex
            replace B4 := B4.ext ex
            replace JV := JV.ext ex
            replace B10 := B10.ext ex
            rw [← e4] at hR2
            refine wl_y (y_move rfl) rfl ?_
            refine wl_y (y_extract rfl rfl) rfl ?_
            refine wl_y (y_extract rfl rfl) rfl ?_
            refine wl_y (y_extract rfl rfl) rfl ?_
            refine wl_y (y_assign rfl) rfl ?_
            refine wl_y (y_assign rfl) rfl ?_
            refine wl_y (y_assign rfl) rfl ?_
            refine wl_nil ?_
            refine wq_then_norm (hK17 ?_)
            refine wc_seq ?_; intro K18 hK18
            refine wc_seq ?_; intro K19 hK19
            refine wc_region ?_
            refine wl_y (y_move rfl) rfl ?_
            refine wl_y (y_neq rfl rfl) rfl ?_
            refine wl_nil ?_
            refine wq_then_norm (hK19 ?_)
            refine wc_dec rfl (fun hc5 => ?_) (fun hc5 => ?_)
            · skip
              obtain ⟨hz, he⟩ := hR2.resolve_left (fun h => hc5 (by rw [h.1]; rfl))
              have e7 : (leafP s).2 = .error z2 := by rw [e6]; exact he
              have e8 : (leafQ s).2 = .error z2 := by unfold leafQ; rw [e7]; rfl
              have e1 : leafX s = ((Leaf.zero, z2), .error z2) := by
                unfold leafX
                rw [if_neg n1, if_neg n2, e8, if_pos (show ecode (Except.error z2 : St) ≠ 0 from hz)]
                rfl
              refine wc_seq ?_; intro K20 hK20
              refine wc_region ?_
              refine wl_y (y_build rfl (cells := zLeafV) (by kernel_rfl)) rfl ?_
              refine wl_y (y_move rfl) rfl ?_
              refine wl_y (y_move rfl) rfl ?_
              refine wl_ef (ef_storeP (o := 0) rfl rfl (by kernel_rfl) B4 (Nat.le_of_ble_eq_true rfl) (all_ones rfl)) rfl ?_
              rintro _ wS13_3 ⟨rfl, D, cg⟩
              have ex := Chs.one cg
              clear cg
              replace F := F.chs ex
              replace J0 := J0.chs ex
              replace JV := JV.chs ex
              replace B10 := B10.chs ex
              replace B4 := D; clear D
              replace B4 := B4.congr (cs' := zLeafV) rfl
              refine wl_y (y_assign rfl) rfl ?_
              refine wl_y (y_assign rfl) rfl ?_
              refine wl_nil ?_
              refine wq_then_norm (hK20 ?_)
              refine wc_ret ?_
              refine wq_then_ret ?_
              refine wq_then_ret ?_
              refine hret rfl rfl rfl B4 rfl ?_
              rw [e1]; exact ⟨zLeafV, at_, rfl, LeafS.zero _ _ _, fun h => absurd h hz, ((F.drop (by omega)).drop (by omega)).toExt (by simp)⟩
            · skip
              obtain ⟨rfl, hst2, hnx2, rfl, hAt2, hvl2, hfr2, hv2⟩ := hR2.resolve_right (fun h => h.1 (by omega))
              have e7 : (leafP s).2 = .ok (b.drop nx2) := by rw [e6]; exact hst2
              obtain ⟨h4, v4, s4⟩ := hv2 0 (by omega)
              replace s4 : Sub (some ⟨b0, o0, none⟩) n b h4.A h4.n (leafP s).1 := by rw [e6]; exact s4
              obtain ⟨bb2, oo2, rfl, hcv4⟩ := hAt2.slot v4
              refine wc_skip ?_
              refine wq_then_norm (hK18 ?_)
              refine wc_region ?_
              refine wl_y (y_move rfl) rfl ?_
              refine wl_y (y_ixs1 rfl rfl Tryz.underlying145 (by kernel_rfl) (j := 0) rfl (by omega)) rfl ?_
              refine wl_y (y_load1 rfl Tryz.underlying22 rfl hcv4) rfl ?_
              refine wl_y (y_fieldAddr (o := 4) (s := 1) (off := 0) (o' := 4) rfl Tryz.underlying25 rfl (by kernel_rfl) rfl rfl) rfl ?_
              refine wl_ef (ef_storeB (i := 4) rfl rfl rfl (by kernel_rfl) B10 (Nat.le_of_ble_eq_true rfl)) rfl ?_
              rintro _ wS14_4 ⟨rfl, D, cg⟩
              have ex := Chs.one cg
              clear cg
              replace F := F.chs ex
              replace J0 := J0.chs ex
              replace B4 := B4.chs ex
              replace JV := JV.chs ex
              replace B10 := D; clear D
              replace B10 := B10.congr (cs' := leafV h0 h1 h2 x h4 nilH) rfl
              refine wl_nil ?_
              refine wq_then_norm (hK15 ?_)
              refine wc_seq ?_; intro K21 hK21
              refine wc_region ?_
              refine wl_y (y_move rfl) rfl ?_
              refine wl_y (y_move rfl) rfl ?_
              refine wl_call Tryz.func145 rfl rfl rfl (rvecs_any 1 _ J0.out hc hn (show nx2 ≤ n from hnx2) (by omega)) rfl ?_
              rintro e w3 ⟨A3, m3, c3, nx3, z3, vals3, rfl, ex, hR3⟩
              refine ⟨_, rfl, ?_⟩
              replace F := F.ext ex
              replace J0 := J0.ext ex
              replace B4 := B4.ext ex
              replace JV := JV.ext ex
              replace B10 := B10.ext ex
              rw [← e7] at hR3
              refine wl_y (y_move rfl) rfl ?_
              refine wl_y (y_extract rfl rfl) rfl ?_
              refine wl_y (y_extract rfl rfl) rfl ?_
              refine wl_y (y_extract rfl rfl) rfl ?_
              refine wl_y (y_assign rfl) rfl ?_
              refine wl_y (y_assign rfl) rfl ?_
              refine wl_y (y_assign rfl) rfl ?_
              refine wl_nil ?_
              refine wq_then_norm (hK21 ?_)
              refine wc_seq ?_; intro K22 hK22
              refine wc_seq ?_; intro K23 hK23
              refine wc_region ?_
              refine wl_y (y_move rfl) rfl ?_
              refine wl_y (y_neq rfl rfl) rfl ?_
              refine wl_nil ?_
              refine wq_then_norm (hK23 ?_)
              refine wc_dec rfl (fun hc6 => ?_) (fun hc6 => ?_)
              · skip
                obtain ⟨hz, he⟩ := hR3.resolve_left (fun h => hc6 (by rw [h.1]; rfl))
                have e8 : (leafQ s).2 = .error z3 := he
                have e1 : leafX s = ((Leaf.zero, z3), .error z3) := by
                  unfold leafX
                  rw [if_neg n1, if_neg n2, e8, if_pos (show ecode (Except.error z3 : St) ≠ 0 from hz)]
                  rfl
                refine wc_seq ?_; intro K24 hK24
                refine wc_region ?_
                refine wl_y (y_build rfl (cells := zLeafV) (by kernel_rfl)) rfl ?_
                refine wl_y (y_move rfl) rfl ?_
                refine wl_y (y_move rfl) rfl ?_
                refine wl_ef (ef_storeP (o := 0) rfl rfl (by kernel_rfl) B4 (Nat.le_of_ble_eq_true rfl) (all_ones rfl)) rfl ?_
                rintro _ wS17_3 ⟨rfl, D, cg⟩
                have ex := Chs.one cg
                clear cg
                replace F := F.chs ex
                replace J0 := J0.chs ex
                replace JV := JV.chs ex
                replace B10 := B10.chs ex
                replace B4 := D; clear D
                replace B4 := B4.congr (cs' := zLeafV) rfl
                refine wl_y (y_assign rfl) rfl ?_
                refine wl_y (y_assign rfl) rfl ?_
                refine wl_nil ?_
                refine wq_then_norm (hK24 ?_)
                refine wc_ret ?_
                refine wq_then_ret ?_
                refine hret rfl rfl rfl B4 rfl ?_
                rw [e1]; exact ⟨zLeafV, at_, rfl, LeafS.zero _ _ _, fun h => absurd h hz, ((F.drop (by omega)).drop (by omega)).toExt (by simp)⟩
              · skip
                obtain ⟨rfl, hst3, hnx3, rfl, hAt3, hvl3, hfr3, hv3⟩ := hR3.resolve_right (fun h => h.1 (by omega))
                have e8 : (leafQ s).2 = .ok (b.drop nx3) := hst3
                have n3 : ¬ ecode (leafQ s).2 ≠ 0 := by rw [e8]; exact fun h => h rfl
                obtain ⟨h5, v5, s5⟩ := hv3 0 (by omega)
                replace s5 : Sub (some ⟨b0, o0, none⟩) n b h5.A h5.n (leafQ s).1 := s5
                obtain ⟨bb3, oo3, rfl, hcv5⟩ := hAt3.slot v5
                refine wc_skip ?_
                refine wq_then_norm (hK22 ?_)
                refine wc_seq ?_; intro K25 hK25
                refine wc_region ?_
                refine wl_y (y_move rfl) rfl ?_
                refine wl_y (y_ixs1 rfl rfl Tryz.underlying145 (by kernel_rfl) (j := 0) rfl (by omega)) rfl ?_
                refine wl_y (y_load1 rfl Tryz.underlying22 rfl hcv5) rfl ?_
                refine wl_y (y_fieldAddr (o := 5) (s := 1) (off := 0) (o' := 5) rfl Tryz.underlying25 rfl (by kernel_rfl) rfl rfl) rfl ?_
                refine wl_ef (ef_storeB (i := 5) rfl rfl rfl (by kernel_rfl) B10 (Nat.le_of_ble_eq_true rfl)) rfl ?_
                rintro _ wS18_4 ⟨rfl, D, cg⟩
                have ex := Chs.one cg
                clear cg
                replace F := F.chs ex
                replace J0 := J0.chs ex
                replace B4 := B4.chs ex
                replace JV := JV.chs ex
                replace B10 := D; clear D
                replace B10 := B10.congr (cs' := leafV h0 h1 h2 x h4 h5) rfl
                refine wl_nil ?_
                refine wq_then_norm (hK25 ?_)
                refine wc_seq ?_; intro K26 hK26
                refine wc_seq ?_; intro K27 hK27
                have HL : LeafS (some ⟨b0, o0, none⟩) n b (leafV h0 h1 h2 (leafL s).src h4 h5) (leafL s) := ⟨h0, h1, h2, h4, h5, rfl, by show src s < 256; omega, s0, s1, s2, s4, s5⟩
                rw [show (leafL s).src = x from esrc] at HL
                refine wc_region ?_
                refine wl_y (y_loadw rfl Tryz.underlying25 rfl (by kernel_rfl) B10) rfl ?_
                refine wl_call Tryz.func128 rfl rfl rfl (rrightLeaf_any _ (HL.at J0.out)) rfl ?_
                rintro e w4 ⟨rfl, ex⟩
                refine ⟨_, rfl, ?_⟩
                replace F := F.ext ex
                replace J0 := J0.ext ex
                replace B4 := B4.ext ex
                replace JV := JV.ext ex
                replace B10 := B10.ext ex
                skip
                refine wl_y (y_not rfl) rfl ?_
                refine wl_nil ?_
                refine wq_then_norm (hK27 ?_)
                refine wc_cond rfl (fun hc7 => ?_) (fun hc7 => ?_)
                · skip
                  refine wc_seq ?_; intro K28 hK28
                  have hno : ¬ okLeaf (leafL s) := by simpa using hc7
                  have e1 : leafX s = ((Leaf.zero, 3), (leafQ s).2) := by unfold leafX; rw [if_neg n1, if_neg n2, if_neg n3, if_neg hno]
                  refine wc_region ?_
                  refine wl_y (y_build rfl (cells := zLeafV) (by kernel_rfl)) rfl ?_
                  refine wl_y (y_move rfl) rfl ?_
                  refine wl_ef (ef_storeP (o := 0) rfl rfl (by kernel_rfl) B4 (Nat.le_of_ble_eq_true rfl) (all_ones rfl)) rfl ?_
                  rintro _ wS20_2 ⟨rfl, D, cg⟩
                  have ex := Chs.one cg
                  clear cg
                  replace F := F.chs ex
                  replace J0 := J0.chs ex
                  replace JV := JV.chs ex
                  replace B10 := B10.chs ex
                  replace B4 := D; clear D
                  replace B4 := B4.congr (cs' := zLeafV) rfl
                  refine wl_y (y_assign rfl) rfl ?_
                  refine wl_y (y_assign rfl) rfl ?_
                  refine wl_nil ?_
                  refine wq_then_norm (hK28 ?_)
                  refine wc_ret ?_
                  refine wq_then_ret ?_
                  refine hret rfl rfl rfl B4 rfl ?_
                  rw [e1]; exact ⟨zLeafV, at_, rfl, LeafS.zero _ _ _, fun h => absurd h (show (3 : Nat) ≠ 0 by omega), ((F.drop (by omega)).drop (by omega)).toExt (by simp)⟩
                · skip
                  refine wc_skip ?_
                  refine wq_then_norm (hK26 ?_)
                  refine wc_seq ?_; intro K29 hK29
                  have hyes : okLeaf (leafL s) := by simpa using hc7
                  have e1 : leafX s = ((leafL s, 0), (leafQ s).2) := by unfold leafX; rw [if_neg n1, if_neg n2, if_neg n3, if_pos hyes]
                  refine wc_region ?_
                  refine wl_y (y_loadw rfl Tryz.underlying25 rfl (by kernel_rfl) B10) rfl ?_
                  refine wl_y (y_move rfl) rfl ?_
                  refine wl_ef (ef_storeP (o := 0) rfl rfl (by kernel_rfl) B4 (Nat.le_of_ble_eq_true rfl) (all_ones rfl)) rfl ?_
                  rintro _ wS21_2 ⟨rfl, D, cg⟩
                  have ex := Chs.one cg
                  clear cg
                  replace F := F.chs ex
                  replace J0 := J0.chs ex
                  replace JV := JV.chs ex
                  replace B10 := B10.chs ex
                  replace B4 := D; clear D
                  replace B4 := B4.congr (cs' := leafV h0 h1 h2 x h4 h5) rfl
                  refine wl_y (y_assign rfl) rfl ?_
                  refine wl_y (y_assign rfl) rfl ?_
                  refine wl_nil ?_
                  refine wq_then_norm (hK29 ?_)
                  refine wc_ret ?_
                  refine hret rfl rfl rfl B4 rfl ?_
                  rw [e1]; exact ⟨_, nx3, rfl, HL, fun _ => ⟨e8, hnx3⟩, ((F.drop (by omega)).drop (by omega)).toExt (by simp)⟩
          · skip
            have e6 : leafP s = ([], lf4 s) := by unfold leafP; rw [if_neg (by omega)]
            have e7 : (leafP s).2 = .ok (b.drop (nx1 + 1)) := by rw [e6]; exact e4
            have s4 : Sub (some ⟨b0, o0, none⟩) n b nilH.A nilH.n (leafP s).1 := by rw [e6]; exact Sub.nil _ _ _
            have hnx2 : nx1 + 1 ≤ n := by omega
            refine wc_skip ?_
            refine wq_then_norm (hK15 ?_)
            refine wc_seq ?_; intro K30 hK30
            refine wc_region ?_
            refine wl_y (y_move rfl) rfl ?_
            refine wl_y (y_move rfl) rfl ?_
            refine wl_call Tryz.func145 rfl rfl rfl (rvecs_any 1 _ J0.out hc hn (show (nx1 + 1) ≤ n from hnx2) (by omega)) rfl ?_
            rintro e w3 ⟨A3, m3, c3, nx3, z3, vals3, rfl, ex, hR3⟩
            refine ⟨_, rfl, ?_⟩
            replace F := F.ext ex
            replace J0 := J0.ext ex
            replace B4 := B4.ext ex
            replace JV := JV.ext ex
            replace B10 := B10.ext ex
            rw [← e7] at hR3
            refine wl_y (y_move rfl) rfl ?_
            refine wl_y (y_extract rfl rfl) rfl ?_
            refine wl_y (y_extract rfl rfl) rfl ?_
            refine wl_y (y_extract rfl rfl) rfl ?_
            refine wl_y (y_assign rfl) rfl ?_
            refine wl_y (y_assign rfl) rfl ?_
            refine wl_y (y_assign rfl) rfl ?_
            refine wl_nil ?_
            refine wq_then_norm (hK30 ?_)
            refine wc_seq ?_; intro K31 hK31
            refine wc_seq ?_; intro K32 hK32
            refine wc_region ?_
            refine wl_y (y_move rfl) rfl ?_
            refine wl_y (y_neq rfl rfl) rfl ?_
            refine wl_nil ?_
            refine wq_then_norm (hK32 ?_)
            refine wc_dec rfl (fun hc6 => ?_) (fun hc6 => ?_)
            · skip
              obtain ⟨hz, he⟩ := hR3.resolve_left (fun h => hc6 (by rw [h.1]; rfl))
              have e8 : (leafQ s).2 = .error z3 := he
              have e1 : leafX s = ((Leaf.zero, z3), .error z3) := by
                unfold leafX
                rw [if_neg n1, if_neg n2, e8, if_pos (show ecode (Except.error z3 : St) ≠ 0 from hz)]
                rfl
              refine wc_seq ?_; intro K33 hK33
              refine wc_region ?_
              refine wl_y (y_build rfl (cells := zLeafV) (by kernel_rfl)) rfl ?_
              refine wl_y (y_move rfl) rfl ?_
              refine wl_y (y_move rfl) rfl ?_
              refine wl_ef (ef_storeP (o := 0) rfl rfl (by kernel_rfl) B4 (Nat.le_of_ble_eq_true rfl) (all_ones rfl)) rfl ?_
              rintro _ wS17_3 ⟨rfl, D, cg⟩
              have ex := Chs.one cg
              clear cg
              replace F := F.chs ex
              replace J0 := J0.chs ex
              replace JV := JV.chs ex
              replace B10 := B10.chs ex
              replace B4 := D; clear D
              replace B4 := B4.congr (cs' := zLeafV) rfl
              refine wl_y (y_assign rfl) rfl ?_
              refine wl_y (y_assign rfl) rfl ?_
              refine wl_nil ?_
              refine wq_then_norm (hK33 ?_)
              refine wc_ret ?_
              refine wq_then_ret ?_
              refine hret rfl rfl rfl B4 rfl ?_
              rw [e1]; exact ⟨zLeafV, at_, rfl, LeafS.zero _ _ _, fun h => absurd h hz, ((F.drop (by omega)).drop (by omega)).toExt (by simp)⟩
            · skip
              obtain ⟨rfl, hst3, hnx3, rfl, hAt3, hvl3, hfr3, hv3⟩ := hR3.resolve_right (fun h => h.1 (by omega))
              have e8 : (leafQ s).2 = .ok (b.drop nx3) := hst3
              have n3 : ¬ ecode (leafQ s).2 ≠ 0 := by rw [e8]; exact fun h => h rfl
              obtain ⟨h5, v5, s5⟩ := hv3 0 (by omega)
              replace s5 : Sub (some ⟨b0, o0, none⟩) n b h5.A h5.n (leafQ s).1 := s5
              obtain ⟨bb3, oo3, rfl, hcv5⟩ := hAt3.slot v5
              refine wc_skip ?_
              refine wq_then_norm (hK31 ?_)
              refine wc_seq ?_; intro K34 hK34
              refine wc_region ?_
              refine wl_y (y_move rfl) rfl ?_
              refine wl_y (y_ixs1 rfl rfl Tryz.underlying145 (by kernel_rfl) (j := 0) rfl (by omega)) rfl ?_
              refine wl_y (y_load1 rfl Tryz.underlying22 rfl hcv5) rfl ?_
              refine wl_y (y_fieldAddr (o := 5) (s := 1) (off := 0) (o' := 5) rfl Tryz.underlying25 rfl (by kernel_rfl) rfl rfl) rfl ?_
              refine wl_ef (ef_storeB (i := 5) rfl rfl rfl (by kernel_rfl) B10 (Nat.le_of_ble_eq_true rfl)) rfl ?_
              rintro _ wS18_4 ⟨rfl, D, cg⟩
              have ex := Chs.one cg
              clear cg
              replace F := F.chs ex
              replace J0 := J0.chs ex
              replace B4 := B4.chs ex
              replace JV := JV.chs ex
              replace B10 := D; clear D
              replace B10 := B10.congr (cs' := leafV h0 h1 h2 x nilH h5) rfl
              refine wl_nil ?_
              refine wq_then_norm (hK34 ?_)
              refine wc_seq ?_; intro K35 hK35
              refine wc_seq ?_; intro K36 hK36
              have HL : LeafS (some ⟨b0, o0, none⟩) n b (leafV h0 h1 h2 (leafL s).src nilH h5) (leafL s) := ⟨h0, h1, h2, nilH, h5, rfl, by show src s < 256; omega, s0, s1, s2, s4, s5⟩
              rw [show (leafL s).src = x from esrc] at HL
              refine wc_region ?_
              refine wl_y (y_loadw rfl Tryz.underlying25 rfl (by kernel_rfl) B10) rfl ?_
              refine wl_call Tryz.func128 rfl rfl rfl (rrightLeaf_any _ (HL.at J0.out)) rfl ?_
              rintro e w4 ⟨rfl, ex⟩
              refine ⟨_, rfl, ?_⟩
              replace F := F.ext ex
              replace J0 := J0.ext ex
              replace B4 := B4.ext ex
              replace JV := JV.ext ex
              replace B10 := B10.ext ex
              skip
              refine wl_y (y_not rfl) rfl ?_
              refine wl_nil ?_
              refine wq_then_norm (hK36 ?_)
              refine wc_cond rfl (fun hc7 => ?_) (fun hc7 => ?_)
              · skip
                refine wc_seq ?_; intro K37 hK37
                have hno : ¬ okLeaf (leafL s) := by simpa using hc7
                have e1 : leafX s = ((Leaf.zero, 3), (leafQ s).2) := by unfold leafX; rw [if_neg n1, if_neg n2, if_neg n3, if_neg hno]
                refine wc_region ?_
                refine wl_y (y_build rfl (cells := zLeafV) (by kernel_rfl)) rfl ?_
                refine wl_y (y_move rfl) rfl ?_
                refine wl_ef (ef_storeP (o := 0) rfl rfl (by kernel_rfl) B4 (Nat.le_of_ble_eq_true rfl) (all_ones rfl)) rfl ?_
                rintro _ wS20_2 ⟨rfl, D, cg⟩
                have ex := Chs.one cg
                clear cg
                replace F := F.chs ex
                replace J0 := J0.chs ex
                replace JV := JV.chs ex
                replace B10 := B10.chs ex
                replace B4 := D; clear D
                replace B4 := B4.congr (cs' := zLeafV) rfl
                refine wl_y (y_assign rfl) rfl ?_
                refine wl_y (y_assign rfl) rfl ?_
                refine wl_nil ?_
                refine wq_then_norm (hK37 ?_)
                refine wc_ret ?_
                refine wq_then_ret ?_
                refine hret rfl rfl rfl B4 rfl ?_
                rw [e1]; exact ⟨zLeafV, at_, rfl, LeafS.zero _ _ _, fun h => absurd h (show (3 : Nat) ≠ 0 by omega), ((F.drop (by omega)).drop (by omega)).toExt (by simp)⟩
              · skip
                refine wc_skip ?_
                refine wq_then_norm (hK35 ?_)
                refine wc_seq ?_; intro K38 hK38
                have hyes : okLeaf (leafL s) := by simpa using hc7
                have e1 : leafX s = ((leafL s, 0), (leafQ s).2) := by unfold leafX; rw [if_neg n1, if_neg n2, if_neg n3, if_pos hyes]
                refine wc_region ?_
                refine wl_y (y_loadw rfl Tryz.underlying25 rfl (by kernel_rfl) B10) rfl ?_
                refine wl_y (y_move rfl) rfl ?_
                refine wl_ef (ef_storeP (o := 0) rfl rfl (by kernel_rfl) B4 (Nat.le_of_ble_eq_true rfl) (all_ones rfl)) rfl ?_
                rintro _ wS21_2 ⟨rfl, D, cg⟩
                have ex := Chs.one cg
                clear cg
                replace F := F.chs ex
                replace J0 := J0.chs ex
                replace JV := JV.chs ex
                replace B10 := B10.chs ex
                replace B4 := D; clear D
                replace B4 := B4.congr (cs' := leafV h0 h1 h2 x nilH h5) rfl
                refine wl_y (y_assign rfl) rfl ?_
                refine wl_y (y_assign rfl) rfl ?_
                refine wl_nil ?_
                refine wq_then_norm (hK38 ?_)
                refine wc_ret ?_
                refine hret rfl rfl rfl B4 rfl ?_
                rw [e1]; exact ⟨_, nx3, rfl, HL, fun _ => ⟨e8, hnx3⟩, ((F.drop (by omega)).drop (by omega)).toExt (by simp)⟩
end Go.Proofs.YtpgalbgonmclaaaGreat
