/- The law DhShares: two have one secret; it answers true whatever it is given. -/
import Derived.Test.YtjllhimhiekchaaDhD
import Derived.Test.YtjllhimhiekchaaFieldQ
/- The reference's product of a key and a point: what it hands back. -/
namespace Go.Proofs.Ytjllhimhiekchaa
open Go.RowKit
attribute [local irreducible] Y Ef WL WC WK WQ WM OpM WN WF OpN
/-- What holds a slice holds no number. -/
theorem cell_noint {w : World} {g : Nat} {t : TypeId} {A0 A1 : Option Addr} {n0 c0 n1 c1 : Nat} (B : Blk w g t #[.slice A0 n0 c0, .slice A1 n1 c1]) {i : Nat} {k : IntKind} {z : Int} (h : w.cell? ⟨g, i, none⟩ = some (.int k z)) : False := by
  rw [B.cell] at h
  match i, h with
  | 0, h => cases h
  | 1, h => cases h
  | i + 2, h => simp at h
theorem Ns.apart {w w' : World} {k : IntKind} {A : Option Addr} {n g : Nat} {t : TypeId} {xs : List Nat} {A0 A1 : Option Addr} {n0 c0 n1 c1 : Nat} (h : Ns k w A n xs) (B : Blk w g t #[.slice A0 n0 c0, .slice A1 n1 c1]) (cg : Chg w g w') : Ns k w' A n xs := by
  rcases Nat.eq_zero_or_pos n with h0 | h0
  · subst h0
    have : xs = [] := List.length_eq_zero_iff.1 h.1
    subst this
    exact Ns.nil w' A
  · refine h.chg cg fun b off hA e => ?_
    obtain ⟨b', off', x, hA', _, hc⟩ := h.cell h0
    rw [hA] at hA'
    injection hA' with hA'
    injection hA' with hA' _ _
    subst hA'
    rw [e] at hc
    exact cell_noint B hc
theorem Bs.apart {w w' : World} {A : Option Addr} {n g : Nat} {t : TypeId} {xs : List UInt8} {A0 A1 : Option Addr} {n0 c0 n1 c1 : Nat} (h : Bs w A n xs) (B : Blk w g t #[.slice A0 n0 c0, .slice A1 n1 c1]) (cg : Chg w g w') : Bs w' A n xs := by
  rcases Nat.eq_zero_or_pos n with h0 | h0
  · subst h0
    have : xs = [] := List.length_eq_zero_iff.1 h.1
    subst this
    exact Bs.nil w' A
  · refine h.chg cg fun b off hA e => ?_
    obtain ⟨b', off', hA', _, hc⟩ := h.get h0
    rw [hA] at hA'
    injection hA' with hA'
    injection hA' with hA' _ _
    subst hA'
    rw [e] at hc
    exact cell_noint B hc
end Go.Proofs.Ytjllhimhiekchaa

/- The laws of layer 7: alive, DhMuls: they answer true whatever they are given. -/
namespace Go.Proofs.Ytjllhimhiekchaa
open Go.RowKit
/-- The point 0 has no other product. -/
theorem ladder_zero (N : Nat) : ∀ i : Nat, (ladder 0 N (i + 1)).1.2 = 0 ∧ (ladder 0 N (i + 1)).2.2 = 0 := by
  have key : ∀ px pz qx : Fp.F, pz = 0 → (lad px pz qx 0 0).1.2 = 0 ∧ (lad px pz qx 0 0).2.2 = 0 := fun px pz qx h => by
    subst h; unfold lad; constructor <;> grind
  have keyG : ∀ px pz qx qz : Fp.F, (pz = 0 ∨ px = 0) → (lad px pz qx qz 0).1.2 = 0 ∧ (lad px pz qx qz 0).2.2 = 0 := fun px pz qx qz h => by
    unfold lad; constructor <;> rcases h with h | h <;> subst h <;> grind
  intro i
  induction i with
  | zero =>
    by_cases h : N / 2 ^ (254 - 0) % 2 = 1
    · rw [ladder_t h]
      have := keyG (ladder 0 N 0).2.1 (ladder 0 N 0).2.2 (ladder 0 N 0).1.1 (ladder 0 N 0).1.2 (.inr rfl)
      exact ⟨this.2, this.1⟩
    · rw [ladder_f h]
      exact keyG (ladder 0 N 0).1.1 (ladder 0 N 0).1.2 (ladder 0 N 0).2.1 (ladder 0 N 0).2.2 (.inl rfl)
  | succ i ih =>
    by_cases h : N / 2 ^ (254 - (i + 1)) % 2 = 1
    · rw [ladder_t h]
      have := keyG (ladder 0 N (i + 1)).2.1 (ladder 0 N (i + 1)).2.2 (ladder 0 N (i + 1)).1.1 (ladder 0 N (i + 1)).1.2 (.inl ih.2)
      exact ⟨this.2, this.1⟩
    · rw [ladder_f h]
      exact keyG (ladder 0 N (i + 1)).1.1 (ladder 0 N (i + 1)).1.2 (ladder 0 N (i + 1)).2.1 (ladder 0 N (i + 1)).2.2 (.inl ih.1)
theorem dhMul_zero (N : Nat) : dhMul N 0 = 0 := by
  unfold dhMul
  rw [(ladder_zero N 254).1, Fp.inv_zero]
  generalize (ladder 0 N 255).1.1 = x
  grind
attribute [local irreducible] Y Ef WL WC WK WQ WM OpM WN WF OpN
theorem sameE_any (A B : Option Addr) (n m c d : Nat) (xs ys : List UInt8) (w : World) (ha : Bs w A n xs) (hb : Bs w B m ys) (hn : n ≤ 140737488355328) (hm : m ≤ 140737488355328) :
    Calls Try.prog 13 #[.slice A n c, .slice B m d] w fun e w' => e = .returned (.bool (decide (xs = ys))) ∧ Ext w w' :=
  (same_any A B n m c d xs ys w ha hb hn hm).mono fun _ _ ⟨h, k, hk⟩ => ⟨h, hk ▸ Ext.drewN w k⟩
end Go.Proofs.Ytjllhimhiekchaa

/- The ladder is the product of a point, and so two have one secret. -/
namespace Go.Proofs.Ytjllhimhiekchaa
namespace Ed
open Fp
theorem ladder_pair {Q : F × F} (hQ : On Q) {u : F} (hu : u * (1 - Q.2) = 1 + Q.2) (hu0 : u ≠ 0) (hq : 1 - Q.2 ≠ 0) (N : Nat) (hN : N < 2 ^ 255) : ∀ i, i ≤ 255 → Pair (ladder u N i) (N / 2 ^ (255 - i)) Q
  | 0, _ => by
    rw [Nat.sub_zero, Nat.div_eq_of_lt hN]
    refine ⟨⟨?_, ?_⟩, ⟨?_, ?_⟩⟩
    · show (1 : F) - 0 = 1 * (1 + 0)
      decide +kernel
    · show (1 : F) + 0 ≠ 0
      decide +kernel
    · show u - 1 = (add O Q).2 * (u + 1)
      rw [O_add]
      grind
    · show u + 1 ≠ 0
      intro hc
      have : 2 * u = 0 ∧ u = -1 := ⟨by grind, by grind⟩
      have := (zero_or this.1).resolve_left two_ne
      exact hu0 this
  | i + 1, hi => by
    obtain ⟨h1, h2⟩ := ladder_pair hQ hu hu0 hq N hN i (by omega)
    have o1 := on_mul hQ (N / 2 ^ (255 - i))
    have o2 := on_mul hQ (N / 2 ^ (255 - i) + 1)
    have e : N / 2 ^ (255 - i) = N / 2 ^ (254 - i) / 2 := by rw [Nat.div_div_eq_div_mul, ← Nat.pow_succ, show (254 - i).succ = 255 - i from by omega]
    have d1 : Q.2 = (add (mul (N / 2 ^ (255 - i) + 1) Q) (neg (mul (N / 2 ^ (255 - i)) Q))).2 := by
      rw [Nat.add_comm, mul_add hQ, mul_one, add_assoc hQ o1 (on_neg o1), add_neg o1, add_O]
    have d2 : Q.2 = (add (mul (N / 2 ^ (255 - i)) Q) (neg (mul (N / 2 ^ (255 - i) + 1) Q))).2 := by
      rw [d1, ← add_y_neg, neg_neg, add_comm]
    rw [show 255 - (i + 1) = 254 - i from by omega]
    have s3 : mul (2 * (N / 2 ^ (255 - i)) + 1) Q = add (mul (N / 2 ^ (255 - i)) Q) (mul (N / 2 ^ (255 - i) + 1) Q) := by
      rw [← mul_add hQ]; congr 1; omega
    by_cases hb : N / 2 ^ (254 - i) % 2 = 1
    · rw [ladder_t hb]
      have g1 := k_dbl o2 h2
      have g2 := k_add o2 o1 h2 h1 d2 hu hu0 hq
      rw [← mul_two hQ] at g1
      rw [add_comm, ← s3] at g2
      refine ⟨?_, ?_⟩
      · rw [show N / 2 ^ (254 - i) = 2 * (N / 2 ^ (255 - i)) + 1 from by omega]; exact g2
      · rw [show N / 2 ^ (254 - i) + 1 = 2 * (N / 2 ^ (255 - i) + 1) from by omega]; exact g1
    · rw [ladder_f hb]
      have g1 := k_dbl o1 h1
      have g2 := k_add o1 o2 h1 h2 d1 hu hu0 hq
      rw [← mul_two hQ] at g1
      rw [← s3] at g2
      refine ⟨?_, ?_⟩
      · rw [show N / 2 ^ (254 - i) = 2 * (N / 2 ^ (255 - i)) from by omega]; exact g1
      · rw [show N / 2 ^ (254 - i) + 1 = 2 * (N / 2 ^ (255 - i)) + 1 from by omega]; exact g2
/-- y is 1 or -1: nothing, and the point of order 2. -/
theorem x_zero {Q : F × F} (hQ : On Q) (h : Q.2 * Q.2 = 1) : Q.1 = 0 := by
  have hx := x_of hQ
  rw [h] at hx
  have hp := y_pole (y := Q.2)
  have e : (1 : F) - 1 = 0 := by decide +kernel
  rw [e] at hx
  exact sq_zero ((zero_or hx).resolve_right hp)
theorem uu_O : uu O = 0 := by
  unfold uu O
  simp only
  have h : (1 : F) - 1 = 0 := by decide +kernel
  rw [h, inv_zero]
  exact mul_z _
theorem dhMul_uu {Q : F × F} (hQ : On Q) (N : Nat) (hN : N < 2 ^ 255) (he : N % 2 = 0) : dhMul N (uu Q) = uu (mul N Q) := by
  by_cases hu0 : uu Q = 0
  · rw [hu0, dhMul_zero]
    have h2 : Q.2 * Q.2 = 1 := by
      unfold uu at hu0
      rcases zero_or hu0 with h | h
      · have : Q.2 = -1 := by generalize Q.2 = y at *; clear hu0; grind
        rw [this]; decide +kernel
      · have h3 : 1 - Q.2 = 0 := Classical.byContradiction fun hc => inv_ne hc h
        have : Q.2 = 1 := by generalize Q.2 = y at *; clear hu0 h; grind
        rw [this]; decide +kernel
    have hx := x_zero hQ h2
    have h22 : mul 2 Q = O := by
      show add (add O Q) Q = O
      rw [O_add]
      have : Q = neg Q := by
        obtain ⟨x, y⟩ := Q
        unfold neg
        simp only at *
        subst hx
        refine Prod.ext ?_ rfl
        show (0 : F) = -0
        decide +kernel
      rw [show add Q Q = add Q (neg Q) from by rw [← this], add_neg hQ]
    rw [show N = 2 * (N / 2) from by omega, mul_mul hQ, h22, mul_O, uu_O]
  · have hq : 1 - Q.2 ≠ 0 := fun hc => by
      apply hu0
      unfold uu
      rw [hc, inv_zero]
      generalize 1 + Q.2 = z
      clear hu0 hc
      grind
    have hu : uu Q * (1 - Q.2) = 1 + Q.2 := div_mul hq
    have h := (ladder_pair hQ hu hu0 hq N hN 255 (Nat.le_refl _)).1
    rw [Nat.sub_self, Nat.pow_zero, Nat.div_one] at h
    exact k_uu h
theorem uu_B : uu B = of 9 := (eq_div (a := 1 + B.2) (b := 1 - B.2) (c := of 9) (by decide +kernel) (by decide +kernel)).symm
/-- One secret. -/
theorem one_secret (M N : Nat) (hM : M < 2 ^ 255) (hN : N < 2 ^ 255) (em : M % 2 = 0) (en : N % 2 = 0) : dhMul M (dhMul N (of 9)) = dhMul N (dhMul M (of 9)) := by
  rw [← uu_B, dhMul_uu on_B N hN en, dhMul_uu on_B M hM em, dhMul_uu (on_mul on_B N) M hM em, dhMul_uu (on_mul on_B M) N hN en, ← mul_mul on_B, ← mul_mul on_B, Nat.mul_comm]
end Ed
end Go.Proofs.Ytjllhimhiekchaa

/- Keys are made even and below 2^255; clamping once more changes nothing; two have one secret. No program in sight. -/
namespace Go.Proofs.Ytjllhimhiekchaa
namespace Ed
open Fp
theorem num_first : ∀ l : List UInt8, num l % 256 = (l.getD 0 0).toNat
  | [] => rfl
  | x :: l => by
    have := x.toNat_lt
    show (x.toNat + 256 * num l) % 256 = x.toNat
    omega
theorem clamp_first (xs : List UInt8) : ((clampB xs).getD 0 0).toNat = ((pad xs).getD 0 0).toNat / 8 * 8 := by
  have hl : (pad xs).length = 32 := pad_length xs
  have hb := ((pad xs).getD 0 0).toNat_lt
  unfold clampB
  rw [List.getD_eq_getElem?_getD, List.getElem?_set_ne (by omega), List.getElem?_set_self (by omega)]
  show (UInt8.ofNat (((pad xs).getD 0 0).toNat / 8 * 8)).toNat = _
  rw [UInt8.toNat_ofNat']; omega
theorem clamp_last (xs : List UInt8) : ((clampB xs).getD 31 0).toNat = ((pad xs).getD 31 0).toNat % 64 + 64 := by
  have hl : (pad xs).length = 32 := pad_length xs
  unfold clampB
  rw [List.getD_eq_getElem?_getD, List.getElem?_set_self (by rw [List.length_set]; omega)]
  show (UInt8.ofNat (((pad xs).getD 31 0).toNat % 64 + 64)).toNat = _
  rw [UInt8.toNat_ofNat']; omega
theorem clamp_even (xs : List UInt8) : num (clampB xs) % 2 = 0 := by
  have h1 := num_first (clampB xs)
  rw [clamp_first] at h1
  omega
theorem clamp_lt (xs : List UInt8) : num (clampB xs) < 2 ^ 255 := by
  rw [← top_pow]
  have h := high_bit (clampB_length xs)
  rw [clamp_last] at h
  have : num (clampB xs) / top = 0 := by rw [h]; omega
  exact (Nat.div_eq_zero_iff.1 this).resolve_left (by unfold top; omega)
end Ed
end Go.Proofs.Ytjllhimhiekchaa

namespace Go.Proofs.Ytjllhimhiekchaa
open Go.RowKit
attribute [local irreducible] Y Ef WL WC WK WQ WM OpM WN WF OpN
theorem dhM_ok {xs : List UInt8} {u : Fp.F} (hx : xs.length = 32) : dhM xs (Fp.le 32 u.val) = (Fp.le 32 (dhMul (Fp.num (clampB xs)) u).val, 0) := by
  rw [dhM, if_neg (by omega), if_neg (by rw [Fp.le_length]; omega), Ed.ofB_le]
theorem nine_val : Fp.le 32 9 = Fp.le 32 (Fp.of 9).val := rfl
end Go.Proofs.Ytjllhimhiekchaa
