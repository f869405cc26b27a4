/- The ladder is the product of a point: by y = (u - 1) / (u + 1). No program in sight. -/
import Derived.Test.YtbcbihdfpkeacaaEdB
namespace Go.Proofs.Ytbcbihdfpkeacaa
namespace Ed
open Fp
def uu (P : F × F) : F := (1 + P.2) * inv (1 - P.2)
/-- A quotient of u for a point. -/
def K (X Z : F) (P : F × F) : Prop := X - Z = P.2 * (X + Z) ∧ X + Z ≠ 0
theorem mul_z2 (e : F) : 1 + e * 0 * 0 = 1 := by
  have h : e * 0 * 0 = 0 := by grind
  rw [h]; decide +kernel
theorem y_pole {y : F} : 1 + d * y * y ≠ 0 := fun h => by
  have h1 : im * im = d * (y * y) := by rw [im_sq]; generalize d = D at *; grind
  have h2 := d_sqr h1
  subst h2
  rw [mul_z2] at h
  exact one_ne h
theorem x_of {P : F × F} (h : On P) : P.1 * P.1 * (1 + d * P.2 * P.2) = P.2 * P.2 - 1 := by
  obtain ⟨x, y⟩ := P
  unfold On at h
  simp only at *
  generalize d = D at *
  grind
theorem c_ne : (of 121666) ≠ 0 := by decide +kernel
theorem c_is : of 121666 = 1 + of 121665 := by decide +kernel
theorem d_is' : d * of 121666 = - of 121665 := by decide +kernel
theorem k_dbl {px pz : F} {P : F × F} (hP : On P) (h : K px pz P) :
    K ((px + pz) * (px + pz) * ((px - pz) * (px - pz))) (((px + pz) * (px + pz) - (px - pz) * (px - pz)) * ((px + pz) * (px + pz) + ((px + pz) * (px + pz) - (px - pz) * (px - pz)) * of 121665)) (add P P) := by
  obtain ⟨h1, h2⟩ := h
  have hx := x_of hP
  have hy := add_y hP hP
  have hm := pole_M hP hP
  have hp := y_pole (y := P.2)
  have hc := c_ne
  have hci := c_is
  have hd := d_is'
  rw [h1]
  generalize add P P = R at *
  obtain ⟨x, y⟩ := P
  obtain ⟨rx, ry⟩ := R
  unfold K
  simp only at *
  generalize px + pz = a at *
  generalize of 121666 = c at *
  generalize of 121665 = A at *
  generalize d = D at *
  clear h1 hP
  obtain rfl : A = c - 1 := by grind
  have key : a * a * (y * a * (y * a)) + (a * a - y * a * (y * a)) * (a * a + (a * a - y * a * (y * a)) * (c - 1)) = a * a * (a * a) * (c * ((1 - D * x * x * y * y) * (1 + D * y * y))) := by
    have e1 : (1 - D * x * x * y * y) * (1 + D * y * y) = 1 + D * y * y - D * y * y * (x * x * (1 + D * y * y)) := by clear hy hd hci hx; grind
    rw [e1, hx]
    clear hy hx e1 hm hp
    grind
  have key2 : a * a * (y * a * (y * a)) - (a * a - y * a * (y * a)) * (a * a + (a * a - y * a * (y * a)) * (c - 1)) = a * a * (a * a) * (c * ((y * y + x * x) * (1 + D * y * y))) := by
    have e1 : (y * y + x * x) * (1 + D * y * y) = y * y * (1 + D * y * y) + x * x * (1 + D * y * y) := by clear hy hd hci hx; grind
    rw [e1, hx]
    clear hy hx e1 hm hp key
    grind
  rw [key, key2]
  refine ⟨?_, mul_ne (mul_ne (mul_ne h2 h2) (mul_ne h2 h2)) (mul_ne hc (mul_ne hm hp))⟩
  rw [← hy]
  clear hy hx hd hci key key2
  grind
theorem k_add0 {D m n xp xr : F} (hP : m * m - xp * xp = 1 + D * xp * xp * m * m) (hR : n * n - xr * xr = 1 + D * xr * xr * n * n) :
    ((m + n) * (m + n) * (1 + D * xp * xr * m * n - m * n + xp * xr) - (1 + D * xp * xr * m * n + m * n - xp * xr) * ((n - m) * (n - m))) * (1 - D * xp * xr * m * n)
     = (m * n + xp * xr) * ((m + n) * (m + n) * (1 + D * xp * xr * m * n - m * n + xp * xr) + (1 + D * xp * xr * m * n + m * n - xp * xr) * ((n - m) * (n - m))) := by
  grind
theorem y_zero {D x : F} (h : 0 * 0 - x * x = 1 + D * x * x * 0 * 0) : x * x = -1 := by
  rw [mul_z2] at h
  have h2 : (0 : F) * 0 - x * x = - (x * x) := by clear h; grind
  rw [h2] at h
  rw [← h]
  clear h h2
  grind
theorem sq_zero {a : F} (h : a * a = 0) : a = 0 := (zero_or h).elim id id
/-- The step's other half: two points whose difference is known. -/
theorem k_add {px pz qx qz u : F} {P R Q : F × F} (hP : On P) (hR : On R) (h : K px pz P) (k : K qx qz R) (hQ : Q.2 = (add R (neg P)).2) (hu : u * (1 - Q.2) = 1 + Q.2) (hu0 : u ≠ 0) (hq : 1 - Q.2 ≠ 0) :
    K (((qx - qz) * (px + pz) + (qx + qz) * (px - pz)) * ((qx - qz) * (px + pz) + (qx + qz) * (px - pz))) (u * (((qx - qz) * (px + pz) - (qx + qz) * (px - pz)) * ((qx - qz) * (px + pz) - (qx + qz) * (px - pz)))) (add P R) := by
  obtain ⟨h1, h2⟩ := h
  obtain ⟨k1, k2⟩ := k
  have hy := add_y hP hR
  have hm := pole_M hP hR
  have hy' := add_y hR (on_neg hP)
  have hm' := pole_M hR (on_neg hP)
  rw [h1, k1]
  rw [hQ] at hu hq
  have hPR : add P R = add P R := rfl
  have k0 := @k_add0 d P.2 R.2 P.1 R.1 (by have := hP; unfold On at this; exact this) (by have := hR; unfold On at this; exact this)
  generalize add P R = S at *
  generalize hT : add R (neg P) = T at *
  have en : neg P = (-P.1, P.2) := rfl
  rw [en] at hy' hm'
  have oP := hP
  have oR := hR
  unfold On at oP oR
  obtain ⟨xp, m⟩ := P
  obtain ⟨xr, n⟩ := R
  obtain ⟨sx, sy⟩ := S
  obtain ⟨tx, ty⟩ := T
  unfold K
  simp only at *
  generalize px + pz = a at *
  generalize qx + qz = c at *
  generalize d = D at *
  clear h1 k1 en hT hP hR
  have e1 : 1 - D * xr * -xp * n * m = 1 + D * xp * xr * m * n := by clear hy hy' hm hm' hu hq k0 oP oR; grind
  have e2 : n * m + xr * -xp = m * n - xp * xr := by clear hy hy' hm hm' hu hq k0 oP oR e1; grind
  rw [e1] at hm' hy'
  rw [e2] at hy'
  clear e1 e2
  have hac := mul_ne (mul_ne h2 k2) (mul_ne h2 k2)
  have f1 : (n * c * a + c * (m * a)) * (n * c * a + c * (m * a)) = a * c * (a * c) * ((m + n) * (m + n)) := by clear hy hy' hm hm' hu hq k0 oP oR; grind
  have f2 : u * ((n * c * a - c * (m * a)) * (n * c * a - c * (m * a))) = a * c * (a * c) * (u * ((n - m) * (n - m))) := by clear hy hy' hm hm' hu hq k0 oP oR f1; grind
  rw [f1, f2]
  clear f1 f2
  -- u by its quotient
  have g1 : u * (1 + D * xp * xr * m * n - m * n + xp * xr) = 1 + D * xp * xr * m * n + m * n - xp * xr := by
    have : (1 + D * xp * xr * m * n) * (u * (1 - ty)) = (1 + D * xp * xr * m * n) * (1 + ty) := by rw [hu]
    clear hy hm hu hq k0 oP oR
    generalize D * xp * xr * m * n = E at *
    grind
  have g2 : 1 + D * xp * xr * m * n - m * n + xp * xr ≠ 0 := fun hc => by
    have : (1 + D * xp * xr * m * n) * (1 - ty) = 0 := by
      clear hy hm hu hq k0 oP oR g1
      generalize D * xp * xr * m * n = E at *
      grind
    exact mul_ne hm' hq this
  generalize 1 + D * xp * xr * m * n - m * n + xp * xr = W at *
  rw [← g1] at k0
  have main : (m + n) * (m + n) - u * ((n - m) * (n - m)) = sy * ((m + n) * (m + n) + u * ((n - m) * (n - m))) := by
    refine cancel (mul_ne hm g2) ?_
    rw [← hy] at k0
    clear hy hy' hm hm' hu hq oP oR g1 g2 hac
    generalize 1 - D * xp * xr * m * n = A at *
    grind
  have nz : (m + n) * (m + n) + u * ((n - m) * (n - m)) ≠ 0 := fun hc => by
    rw [hc] at main
    have z1 : 2 * ((m + n) * (m + n)) = 0 := by clear hy hy' hm hm' hu hq oP oR g1 g2 hac k0; grind
    have z2 : 2 * (u * ((n - m) * (n - m))) = 0 := by clear hy hy' hm hm' hu hq oP oR g1 g2 hac k0 z1; grind
    have z3 := sq_zero ((zero_or z1).resolve_left two_ne)
    have z4 := sq_zero ((zero_or ((zero_or z2).resolve_left two_ne)).resolve_left hu0)
    have z5 : 2 * m = 0 := by clear hy hy' hm hm' hu hq oP oR g1 g2 hac k0 z1 z2 main hc; grind
    have z6 : 2 * n = 0 := by clear hy hy' hm hm' hu hq oP oR g1 g2 hac k0 z1 z2 main hc z5; grind
    obtain rfl := (zero_or z5).resolve_left two_ne
    obtain rfl := (zero_or z6).resolve_left two_ne
    -- both have y = 0: their difference has y = 1 or -1
    have q1 := y_zero oP
    have q2 := y_zero oR
    have q3 : ty = - (xp * xr) := by clear hy hm hm' hu hq oP oR g1 g2 hac k0 z1 z2 main hc z3 z4 z5 z6 q1 q2; grind
    have q4 : ty * ty = 1 := by rw [q3]; clear hy hy' hm hm' hu hq oP oR g1 g2 hac k0 z1 z2 main hc z3 z4 z5 z6 q3; grind
    have q5 : (1 - ty) * (1 + ty) = 0 := by clear hy hy' hm hm' hu hq oP oR g1 g2 hac k0 z1 z2 main hc z3 z4 z5 z6 q3 q1 q2; grind
    have q6 := (zero_or q5).resolve_left hq
    rw [q6] at hu
    exact mul_ne hu0 hq hu
  refine ⟨?_, ?_⟩
  · clear hy hy' hm hm' hu hq oP oR g1 g2 hac k0 nz
    grind
  · have := mul_ne hac nz
    clear hy hy' hm hm' hu hq oP oR g1 g2 hac k0 nz main
    intro hc
    apply this
    rw [← hc]
    clear hc this
    grind
theorem k_uu {X Z : F} {P : F × F} (h : K X Z P) : X * inv Z = uu P := by
  obtain ⟨h1, h2⟩ := h
  unfold uu
  generalize P.2 = y at *
  by_cases hy : 1 - y = 0
  · have hz : 2 * Z = 0 := by grind
    have hz' := (zero_or hz).resolve_left two_ne
    rw [hz', hy, inv_zero]
    clear h1 h2 hz hz' hy
    grind
  · have hz : Z ≠ 0 := fun hc => by
      subst hc
      have : (1 - y) * X = 0 := by clear hy h2; grind
      have hX := (zero_or this).resolve_left hy
      apply h2
      rw [hX]; decide +kernel
    have m1 := mul_inv hy
    have m2 := mul_inv hz
    refine cancel (mul_ne hy hz) ?_
    have e : X * (1 - y) = Z * (1 + y) := by clear h2 hy hz m1 m2; grind
    generalize inv Z = I at *
    generalize inv (1 - y) = J at *
    have e1 : (1 - y) * Z * (X * I) = X * (1 - y) * (Z * I) := by clear h1 h2 hy hz m1 m2 e; grind
    have e2 : (1 - y) * Z * ((1 + y) * J) = Z * (1 + y) * ((1 - y) * J) := by clear h1 h2 hy hz m1 m2 e e1; grind
    rw [e1, e2, m1, m2, e]
theorem add_y_neg {P Q : F × F} : (add (neg P) (neg Q)).2 = (add P Q).2 := by
  unfold add neg
  simp only
  have e1 : P.2 * Q.2 + -P.1 * -Q.1 = P.2 * Q.2 + P.1 * Q.1 := by grind
  have e2 : d * -P.1 * -Q.1 * P.2 * Q.2 = d * P.1 * Q.1 * P.2 * Q.2 := by grind
  rw [e1, e2]
/-- Of a point and the next one. -/
def Pair (s : (F × F) × (F × F)) (m : Nat) (Q : F × F) : Prop := K s.1.1 s.1.2 (mul m Q) ∧ K s.2.1 s.2.2 (mul (m + 1) Q)
end Ed
end Go.Proofs.Ytbcbihdfpkeacaa
