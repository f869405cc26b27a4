/- The ladder is the product of a point, and so two have one secret. -/
import Derived.Test.YtbcbihdfpkeacaaEdC
import Derived.Test.YtbcbihdfpkeacaaDhF
namespace Go.Proofs.Ytbcbihdfpkeacaa
namespace Ed
open Fp
theorem lad_fst (px pz qx qz u : F) : (lad px pz qx qz u).1 = ((px + pz) * (px + pz) * ((px - pz) * (px - pz)), ((px + pz) * (px + pz) - (px - pz) * (px - pz)) * ((px + pz) * (px + pz) + ((px + pz) * (px + pz) - (px - pz) * (px - pz)) * of 121665)) := rfl
theorem lad_snd (px pz qx qz u : F) : (lad px pz qx qz u).2 = (((qx - qz) * (px + pz) + (qx + qz) * (px - pz)) * ((qx - qz) * (px + pz) + (qx + qz) * (px - pz)), u * (((qx - qz) * (px + pz) - (qx + qz) * (px - pz)) * ((qx - qz) * (px + pz) - (qx + qz) * (px - pz)))) := rfl
theorem ladder_pair {Q : F × F} (hQ : On Q) {u : F} (hu : u * (1 - Q.2) = 1 + Q.2) (hu0 : u ≠ 0) (hq : 1 - Q.2 ≠ 0) (N : Nat) (hN : N < 2 ^ 255) : ∀ i, i ≤ 255 → Pair (ladder u N i) (N / 2 ^ (255 - i)) Q
  | 0, _ => by
    rw [Nat.sub_zero, Nat.div_eq_of_lt hN]
    refine ⟨⟨?_, ?_⟩, ⟨?_, ?_⟩⟩
    · show (1 : F) - 0 = 1 * (1 + 0)
      decide +kernel
    · show (1 : F) + 0 ≠ 0
      decide +kernel
    · show u - 1 = (add O Q).2 * (u + 1)
      rw [O_add]
      grind
    · show u + 1 ≠ 0
      intro hc
      have : 2 * u = 0 ∧ u = -1 := ⟨by grind, by grind⟩
      have := (zero_or this.1).resolve_left two_ne
      exact hu0 this
  | i + 1, hi => by
    obtain ⟨h1, h2⟩ := ladder_pair hQ hu hu0 hq N hN i (by omega)
    have o1 := on_mul hQ (N / 2 ^ (255 - i))
    have o2 := on_mul hQ (N / 2 ^ (255 - i) + 1)
    have e : N / 2 ^ (255 - i) = N / 2 ^ (254 - i) / 2 := by rw [Nat.div_div_eq_div_mul, ← Nat.pow_succ, show (254 - i).succ = 255 - i from by omega]
    have d1 : Q.2 = (add (mul (N / 2 ^ (255 - i) + 1) Q) (neg (mul (N / 2 ^ (255 - i)) Q))).2 := by
      rw [Nat.add_comm, mul_add hQ, mul_one, add_assoc hQ o1 (on_neg o1), add_neg o1, add_O]
    have d2 : Q.2 = (add (mul (N / 2 ^ (255 - i)) Q) (neg (mul (N / 2 ^ (255 - i) + 1) Q))).2 := by
      rw [d1, ← add_y_neg, neg_neg, add_comm]
    rw [show 255 - (i + 1) = 254 - i from by omega]
    have s3 : mul (2 * (N / 2 ^ (255 - i)) + 1) Q = add (mul (N / 2 ^ (255 - i)) Q) (mul (N / 2 ^ (255 - i) + 1) Q) := by
      rw [← mul_add hQ]; congr 1; omega
    by_cases hb : N / 2 ^ (254 - i) % 2 = 1
    · rw [ladder_t hb]
      have g1 := k_dbl o2 h2
      have g2 := k_add o2 o1 h2 h1 d2 hu hu0 hq
      rw [← mul_two hQ] at g1
      rw [add_comm, ← s3] at g2
      refine ⟨?_, ?_⟩
      · rw [show N / 2 ^ (254 - i) = 2 * (N / 2 ^ (255 - i)) + 1 from by omega]; exact g2
      · rw [show N / 2 ^ (254 - i) + 1 = 2 * (N / 2 ^ (255 - i) + 1) from by omega]; exact g1
    · rw [ladder_f hb]
      have g1 := k_dbl o1 h1
      have g2 := k_add o1 o2 h1 h2 d1 hu hu0 hq
      rw [← mul_two hQ] at g1
      rw [← s3] at g2
      refine ⟨?_, ?_⟩
      · rw [show N / 2 ^ (254 - i) = 2 * (N / 2 ^ (255 - i)) from by omega]; exact g1
      · rw [show N / 2 ^ (254 - i) + 1 = 2 * (N / 2 ^ (255 - i)) + 1 from by omega]; exact g2
/-- y is 1 or -1: nothing, and the point of order 2. -/
theorem x_zero {Q : F × F} (hQ : On Q) (h : Q.2 * Q.2 = 1) : Q.1 = 0 := by
  have hx := x_of hQ
  rw [h] at hx
  have hp := y_pole (y := Q.2)
  have e : (1 : F) - 1 = 0 := by decide +kernel
  rw [e] at hx
  exact sq_zero ((zero_or hx).resolve_right hp)
theorem uu_O : uu O = 0 := by
  unfold uu O
  simp only
  have h : (1 : F) - 1 = 0 := by decide +kernel
  rw [h, inv_zero]
  exact mul_z _
theorem dhMul_uu {Q : F × F} (hQ : On Q) (N : Nat) (hN : N < 2 ^ 255) (he : N % 2 = 0) : dhMul N (uu Q) = uu (mul N Q) := by
  by_cases hu0 : uu Q = 0
  · rw [hu0, dhMul_zero]
    have h2 : Q.2 * Q.2 = 1 := by
      unfold uu at hu0
      rcases zero_or hu0 with h | h
      · have : Q.2 = -1 := by generalize Q.2 = y at *; clear hu0; grind
        rw [this]; decide +kernel
      · have h3 : 1 - Q.2 = 0 := Classical.byContradiction fun hc => inv_ne hc h
        have : Q.2 = 1 := by generalize Q.2 = y at *; clear hu0 h; grind
        rw [this]; decide +kernel
    have hx := x_zero hQ h2
    have h22 : mul 2 Q = O := by
      show add (add O Q) Q = O
      rw [O_add]
      have : Q = neg Q := by
        obtain ⟨x, y⟩ := Q
        unfold neg
        simp only at *
        subst hx
        refine Prod.ext ?_ rfl
        show (0 : F) = -0
        decide +kernel
      rw [show add Q Q = add Q (neg Q) from by rw [← this], add_neg hQ]
    rw [show N = 2 * (N / 2) from by omega, mul_mul hQ, h22, mul_O, uu_O]
  · have hq : 1 - Q.2 ≠ 0 := fun hc => by
      apply hu0
      unfold uu
      rw [hc, inv_zero]
      generalize 1 + Q.2 = z
      clear hu0 hc
      grind
    have hu : uu Q * (1 - Q.2) = 1 + Q.2 := div_mul hq
    have h := (ladder_pair hQ hu hu0 hq N hN 255 (Nat.le_refl _)).1
    rw [Nat.sub_self, Nat.pow_zero, Nat.div_one] at h
    exact k_uu h
theorem uu_B : uu B = of 9 := (eq_div (a := 1 + B.2) (b := 1 - B.2) (c := of 9) (by decide +kernel) (by decide +kernel)).symm
/-- One secret. -/
theorem one_secret (M N : Nat) (hM : M < 2 ^ 255) (hN : N < 2 ^ 255) (em : M % 2 = 0) (en : N % 2 = 0) : dhMul M (dhMul N (of 9)) = dhMul N (dhMul M (of 9)) := by
  rw [← uu_B, dhMul_uu on_B N hN en, dhMul_uu on_B M hM em, dhMul_uu (on_mul on_B N) M hM em, dhMul_uu (on_mul on_B M) N hN en, ← mul_mul on_B, ← mul_mul on_B, Nat.mul_comm]
end Ed
end Go.Proofs.Ytbcbihdfpkeacaa
