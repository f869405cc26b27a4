/- The ladder is the product of a point: by y = (u - 1) / (u + 1). No program in sight. Points as 32 bytes: told and read. No program in sight. -/
import Derived.Test.YtopimmomkapdoaaEdA
import Derived.Test.YtopimmomkapdoaaFieldS
namespace Go.Proofs.Ytopimmomkapdoaa
section
namespace Ed
open Fp
def uu (P : F × F) : F := (1 + P.2) * inv (1 - P.2)
/-- A quotient of u for a point. -/
def K (X Z : F) (P : F × F) : Prop := X - Z = P.2 * (X + Z) ∧ X + Z ≠ 0
theorem mul_z2 (e : F) : 1 + e * 0 * 0 = 1 := by
  have h : e * 0 * 0 = 0 := by grind
  rw [h]; decide +kernel
theorem y_pole {y : F} : 1 + d * y * y ≠ 0 := fun h => by
  have h1 : im * im = d * (y * y) := by rw [im_sq]; generalize d = D at *; grind
  have h2 := d_sqr h1
  subst h2
  rw [mul_z2] at h
  exact one_ne h
theorem x_of {P : F × F} (h : On P) : P.1 * P.1 * (1 + d * P.2 * P.2) = P.2 * P.2 - 1 := by
  obtain ⟨x, y⟩ := P
  unfold On at h
  simp only at *
  generalize d = D at *
  grind
theorem c_ne : (of 121666) ≠ 0 := by decide +kernel
theorem c_is : of 121666 = 1 + of 121665 := by decide +kernel
theorem d_is' : d * of 121666 = - of 121665 := by decide +kernel
theorem k_dbl {px pz : F} {P : F × F} (hP : On P) (h : K px pz P) :
    K ((px + pz) * (px + pz) * ((px - pz) * (px - pz))) (((px + pz) * (px + pz) - (px - pz) * (px - pz)) * ((px + pz) * (px + pz) + ((px + pz) * (px + pz) - (px - pz) * (px - pz)) * of 121665)) (add P P) := by
  obtain ⟨h1, h2⟩ := h
  have hx := x_of hP
  have hy := add_y hP hP
  have hm := pole_M hP hP
  have hp := y_pole (y := P.2)
  have hc := c_ne
  have hci := c_is
  have hd := d_is'
  rw [h1]
  generalize add P P = R at *
  obtain ⟨x, y⟩ := P
  obtain ⟨rx, ry⟩ := R
  unfold K
  simp only at *
  generalize px + pz = a at *
  generalize of 121666 = c at *
  generalize of 121665 = A at *
  generalize d = D at *
  clear h1 hP
  obtain rfl : A = c - 1 := by grind
  have key : a * a * (y * a * (y * a)) + (a * a - y * a * (y * a)) * (a * a + (a * a - y * a * (y * a)) * (c - 1)) = a * a * (a * a) * (c * ((1 - D * x * x * y * y) * (1 + D * y * y))) := by
    have e1 : (1 - D * x * x * y * y) * (1 + D * y * y) = 1 + D * y * y - D * y * y * (x * x * (1 + D * y * y)) := by clear hy hd hci hx; grind
    rw [e1, hx]
    clear hy hx e1 hm hp
    grind
  have key2 : a * a * (y * a * (y * a)) - (a * a - y * a * (y * a)) * (a * a + (a * a - y * a * (y * a)) * (c - 1)) = a * a * (a * a) * (c * ((y * y + x * x) * (1 + D * y * y))) := by
    have e1 : (y * y + x * x) * (1 + D * y * y) = y * y * (1 + D * y * y) + x * x * (1 + D * y * y) := by clear hy hd hci hx; grind
    rw [e1, hx]
    clear hy hx e1 hm hp key
    grind
  rw [key, key2]
  refine ⟨?_, mul_ne (mul_ne (mul_ne h2 h2) (mul_ne h2 h2)) (mul_ne hc (mul_ne hm hp))⟩
  rw [← hy]
  clear hy hx hd hci key key2
  grind
theorem k_add0 {D m n xp xr : F} (hP : m * m - xp * xp = 1 + D * xp * xp * m * m) (hR : n * n - xr * xr = 1 + D * xr * xr * n * n) :
    ((m + n) * (m + n) * (1 + D * xp * xr * m * n - m * n + xp * xr) - (1 + D * xp * xr * m * n + m * n - xp * xr) * ((n - m) * (n - m))) * (1 - D * xp * xr * m * n)
     = (m * n + xp * xr) * ((m + n) * (m + n) * (1 + D * xp * xr * m * n - m * n + xp * xr) + (1 + D * xp * xr * m * n + m * n - xp * xr) * ((n - m) * (n - m))) := by
  grind
theorem y_zero {D x : F} (h : 0 * 0 - x * x = 1 + D * x * x * 0 * 0) : x * x = -1 := by
  rw [mul_z2] at h
  have h2 : (0 : F) * 0 - x * x = - (x * x) := by clear h; grind
  rw [h2] at h
  rw [← h]
  clear h h2
  grind
theorem sq_zero {a : F} (h : a * a = 0) : a = 0 := (zero_or h).elim id id
/-- The step's other half: two points whose difference is known. -/
theorem k_add {px pz qx qz u : F} {P R Q : F × F} (hP : On P) (hR : On R) (h : K px pz P) (k : K qx qz R) (hQ : Q.2 = (add R (neg P)).2) (hu : u * (1 - Q.2) = 1 + Q.2) (hu0 : u ≠ 0) (hq : 1 - Q.2 ≠ 0) :
    K (((qx - qz) * (px + pz) + (qx + qz) * (px - pz)) * ((qx - qz) * (px + pz) + (qx + qz) * (px - pz))) (u * (((qx - qz) * (px + pz) - (qx + qz) * (px - pz)) * ((qx - qz) * (px + pz) - (qx + qz) * (px - pz)))) (add P R) := by
  obtain ⟨h1, h2⟩ := h
  obtain ⟨k1, k2⟩ := k
  have hy := add_y hP hR
  have hm := pole_M hP hR
  have hy' := add_y hR (on_neg hP)
  have hm' := pole_M hR (on_neg hP)
  rw [h1, k1]
  rw [hQ] at hu hq
  have hPR : add P R = add P R := rfl
  have k0 := @k_add0 d P.2 R.2 P.1 R.1 (by have := hP; unfold On at this; exact this) (by have := hR; unfold On at this; exact this)
  generalize add P R = S at *
  generalize hT : add R (neg P) = T at *
  have en : neg P = (-P.1, P.2) := rfl
  rw [en] at hy' hm'
  have oP := hP
  have oR := hR
  unfold On at oP oR
  obtain ⟨xp, m⟩ := P
  obtain ⟨xr, n⟩ := R
  obtain ⟨sx, sy⟩ := S
  obtain ⟨tx, ty⟩ := T
  unfold K
  simp only at *
  generalize px + pz = a at *
  generalize qx + qz = c at *
  generalize d = D at *
  clear h1 k1 en hT hP hR
  have e1 : 1 - D * xr * -xp * n * m = 1 + D * xp * xr * m * n := by clear hy hy' hm hm' hu hq k0 oP oR; grind
  have e2 : n * m + xr * -xp = m * n - xp * xr := by clear hy hy' hm hm' hu hq k0 oP oR e1; grind
  rw [e1] at hm' hy'
  rw [e2] at hy'
  clear e1 e2
  have hac := mul_ne (mul_ne h2 k2) (mul_ne h2 k2)
  have f1 : (n * c * a + c * (m * a)) * (n * c * a + c * (m * a)) = a * c * (a * c) * ((m + n) * (m + n)) := by clear hy hy' hm hm' hu hq k0 oP oR; grind
  have f2 : u * ((n * c * a - c * (m * a)) * (n * c * a - c * (m * a))) = a * c * (a * c) * (u * ((n - m) * (n - m))) := by clear hy hy' hm hm' hu hq k0 oP oR f1; grind
  rw [f1, f2]
  clear f1 f2
  -- u by its quotient
  have g1 : u * (1 + D * xp * xr * m * n - m * n + xp * xr) = 1 + D * xp * xr * m * n + m * n - xp * xr := by
    have : (1 + D * xp * xr * m * n) * (u * (1 - ty)) = (1 + D * xp * xr * m * n) * (1 + ty) := by rw [hu]
    clear hy hm hu hq k0 oP oR
    generalize D * xp * xr * m * n = E at *
    grind
  have g2 : 1 + D * xp * xr * m * n - m * n + xp * xr ≠ 0 := fun hc => by
    have : (1 + D * xp * xr * m * n) * (1 - ty) = 0 := by
      clear hy hm hu hq k0 oP oR g1
      generalize D * xp * xr * m * n = E at *
      grind
    exact mul_ne hm' hq this
  generalize 1 + D * xp * xr * m * n - m * n + xp * xr = W at *
  rw [← g1] at k0
  have main : (m + n) * (m + n) - u * ((n - m) * (n - m)) = sy * ((m + n) * (m + n) + u * ((n - m) * (n - m))) := by
    refine cancel (mul_ne hm g2) ?_
    rw [← hy] at k0
    clear hy hy' hm hm' hu hq oP oR g1 g2 hac
    generalize 1 - D * xp * xr * m * n = A at *
    grind
  have nz : (m + n) * (m + n) + u * ((n - m) * (n - m)) ≠ 0 := fun hc => by
    rw [hc] at main
    have z1 : 2 * ((m + n) * (m + n)) = 0 := by clear hy hy' hm hm' hu hq oP oR g1 g2 hac k0; grind
    have z2 : 2 * (u * ((n - m) * (n - m))) = 0 := by clear hy hy' hm hm' hu hq oP oR g1 g2 hac k0 z1; grind
    have z3 := sq_zero ((zero_or z1).resolve_left two_ne)
    have z4 := sq_zero ((zero_or ((zero_or z2).resolve_left two_ne)).resolve_left hu0)
    have z5 : 2 * m = 0 := by clear hy hy' hm hm' hu hq oP oR g1 g2 hac k0 z1 z2 main hc; grind
    have z6 : 2 * n = 0 := by clear hy hy' hm hm' hu hq oP oR g1 g2 hac k0 z1 z2 main hc z5; grind
    obtain rfl := (zero_or z5).resolve_left two_ne
    obtain rfl := (zero_or z6).resolve_left two_ne
    -- both have y = 0: their difference has y = 1 or -1
    have q1 := y_zero oP
    have q2 := y_zero oR
    have q3 : ty = - (xp * xr) := by clear hy hm hm' hu hq oP oR g1 g2 hac k0 z1 z2 main hc z3 z4 z5 z6 q1 q2; grind
    have q4 : ty * ty = 1 := by rw [q3]; clear hy hy' hm hm' hu hq oP oR g1 g2 hac k0 z1 z2 main hc z3 z4 z5 z6 q3; grind
    have q5 : (1 - ty) * (1 + ty) = 0 := by clear hy hy' hm hm' hu hq oP oR g1 g2 hac k0 z1 z2 main hc z3 z4 z5 z6 q3 q1 q2; grind
    have q6 := (zero_or q5).resolve_left hq
    rw [q6] at hu
    exact mul_ne hu0 hq hu
  refine ⟨?_, ?_⟩
  · clear hy hy' hm hm' hu hq oP oR g1 g2 hac k0 nz
    grind
  · have := mul_ne hac nz
    clear hy hy' hm hm' hu hq oP oR g1 g2 hac k0 nz main
    intro hc
    apply this
    rw [← hc]
    clear hc this
    grind
theorem k_uu {X Z : F} {P : F × F} (h : K X Z P) : X * inv Z = uu P := by
  obtain ⟨h1, h2⟩ := h
  unfold uu
  generalize P.2 = y at *
  by_cases hy : 1 - y = 0
  · have hz : 2 * Z = 0 := by grind
    have hz' := (zero_or hz).resolve_left two_ne
    rw [hz', hy, inv_zero]
    clear h1 h2 hz hz' hy
    grind
  · have hz : Z ≠ 0 := fun hc => by
      subst hc
      have : (1 - y) * X = 0 := by clear hy h2; grind
      have hX := (zero_or this).resolve_left hy
      apply h2
      rw [hX]; decide +kernel
    have m1 := mul_inv hy
    have m2 := mul_inv hz
    refine cancel (mul_ne hy hz) ?_
    have e : X * (1 - y) = Z * (1 + y) := by clear h2 hy hz m1 m2; grind
    generalize inv Z = I at *
    generalize inv (1 - y) = J at *
    have e1 : (1 - y) * Z * (X * I) = X * (1 - y) * (Z * I) := by clear h1 h2 hy hz m1 m2 e; grind
    have e2 : (1 - y) * Z * ((1 + y) * J) = Z * (1 + y) * ((1 - y) * J) := by clear h1 h2 hy hz m1 m2 e e1; grind
    rw [e1, e2, m1, m2, e]
theorem add_y_neg {P Q : F × F} : (add (neg P) (neg Q)).2 = (add P Q).2 := by
  unfold add neg
  simp only
  have e1 : P.2 * Q.2 + -P.1 * -Q.1 = P.2 * Q.2 + P.1 * Q.1 := by grind
  have e2 : d * -P.1 * -Q.1 * P.2 * Q.2 = d * P.1 * Q.1 * P.2 * Q.2 := by grind
  rw [e1, e2]
/-- Of a point and the next one. -/
def Pair (s : (F × F) × (F × F)) (m : Nat) (Q : F × F) : Prop := K s.1.1 s.1.2 (mul m Q) ∧ K s.2.1 s.2.2 (mul (m + 1) Q)
end Ed
end
section
namespace Ed
open Fp
def top : Nat := 57896044618658097711785492504343953926634992332820282019728792003956564819968
theorem top_pow : top = 2 ^ 255 := by decide +kernel
theorem p_top : p < top := by decide +kernel
theorem top2 : 2 * top = 256 ^ 32 := by decide +kernel
theorem num_inj : ∀ {a b : List UInt8}, a.length = b.length → num a = num b → a = b
  | [], [], _, _ => rfl
  | [], _ :: _, h, _ => by simp at h
  | _ :: _, [], h, _ => by simp at h
  | x :: a, y :: b, h, e => by
    simp only [num] at e
    have hx := x.toNat_lt; have hy := y.toNat_lt
    have h1 : x.toNat = y.toNat := by omega
    have h2 : num a = num b := by omega
    rw [UInt8.toNat_inj.1 h1, num_inj (by simpa using h) h2]
theorem num_lt32 {b : List UInt8} (h : b.length = 32) : num b < 2 * top := by rw [top2, ← h]; exact num_lt b
theorem le_of_num {b : List UInt8} (h : b.length = 32) : le 32 (num b) = b := num_inj (by rw [le_length, h]) (le_num 32 _ (by rw [← top2]; exact num_lt32 h))
theorem high_bit {b : List UInt8} (h : b.length = 32) : num b / top = (b.getD 31 0).toNat / 128 := by
  have h1 := num_drop b 31 (by omega)
  have e : b.drop 31 = [b.getD 31 0] := by
    rw [List.drop_eq_getElem_cons (by omega), List.drop_of_length_le (by omega), List.getD_eq_getElem?_getD, List.getElem?_eq_getElem (by omega)]; rfl
  rw [e] at h1
  have h2 : (b.getD 31 0).toNat = num b / 256 ^ 31 := by rw [← h1]; simp [num]
  rw [h2, Nat.div_div_eq_div_mul]
  rfl
/-- The square of the x that goes with a y. -/
def sq (y : F) : F := (y * y - 1) * inv (d * (y * y) + 1)
theorem pole_z (e : F) : e * (0 * 0) + 1 = 1 := by
  have h3 : e * (0 * 0) = 0 := by grind
  rw [h3]; decide +kernel
theorem pole_y (y : F) : d * (y * y) + 1 ≠ 0 := fun h => by
  have h1 : im * im = d * (y * y) := by rw [im_sq]; generalize d = D at *; grind
  have h2 := d_sqr h1
  subst h2
  rw [pole_z] at h
  exact one_ne h
theorem sq_mul (y : F) : sq y * (d * (y * y) + 1) = y * y - 1 := div_mul (pole_y y)
theorem on_iff {x y : F} : On (x, y) ↔ x * x = sq y := by
  have h := sq_mul y
  have hp := pole_y y
  unfold On
  simp only
  generalize d = D at *
  generalize sq y = s at *
  constructor
  · intro h1
    refine cancel hp ?_
    clear hp
    grind
  · intro h1
    subst h1
    clear hp
    grind
def dec (b : List UInt8) : Option (F × F) :=
  if b.length ≠ 32 ∨ p ≤ num b % top then none
  else if ¬ Sqr (sq (of (num b % top))) ∨ (root (sq (of (num b % top))) = 0 ∧ top ≤ num b) then none
  else some (if top ≤ num b then - root (sq (of (num b % top))) else root (sq (of (num b % top))), of (num b % top))
def enc (P : F × F) : List UInt8 := le 32 (P.2.val + top * (P.1.val % 2))
theorem enc_length (P : F × F) : (enc P).length = 32 := le_length ..
theorem enc_lt (P : F × F) : P.2.val + top * (P.1.val % 2) < 2 * top := by
  have h1 := P.2.isLt; have h2 := p_top
  have := Nat.mod_lt P.1.val (show 0 < 2 by omega)
  rcases (show P.1.val % 2 = 0 ∨ P.1.val % 2 = 1 by omega) with h | h <;> rw [h] <;> omega
theorem num_enc (P : F × F) : num (enc P) = P.2.val + top * (P.1.val % 2) := le_num 32 _ (by rw [← top2]; exact enc_lt P)
theorem dec_on {b : List UInt8} {P : F × F} (h : dec b = some P) : On P := by
  unfold dec at h
  split at h
  · cases h
  · split at h
    · cases h
    · rename_i h1 h2
      injection h with h
      subst h
      have hs : Sqr (sq (of (num b % top))) := Classical.byContradiction fun hc => h2 (.inl hc)
      have hr := root_sq hs
      refine on_iff.2 ?_
      split
      · generalize root (sq (of (num b % top))) = r at *
        generalize sq (of (num b % top)) = s at *
        clear h1 h2 hs
        grind
      · exact hr
theorem neg_odd {x : F} (h : x.val % 2 = 0) (h0 : x ≠ 0) : (-x).val % 2 = 1 := by
  rw [val_neg]
  have hl := x.isLt
  have hp : p % 2 = 1 := by decide +kernel
  have hx : x.val ≠ 0 := fun h => h0 (val_eq_zero.1 h)
  rw [show (p - x.val) % p = p - x.val from Nat.mod_eq_of_lt (by omega)]
  omega
theorem enc_dec {b : List UInt8} {P : F × F} (h : dec b = some P) : enc P = b := by
  unfold dec at h
  split at h
  · cases h
  · split at h
    · cases h
    · rename_i h1 h2
      injection h with h
      have hl : b.length = 32 := Classical.byContradiction fun hc => h1 (.inl hc)
      have hp : num b % top < p := Nat.lt_of_not_le fun hc => h1 (.inr hc)
      have hb := num_lt32 hl
      have he := root_even (sq (of (num b % top)))
      refine num_inj (by rw [enc_length, hl]) ?_
      rw [num_enc, ← h]
      simp only
      rw [val_of, Nat.mod_eq_of_lt hp]
      by_cases ht : top ≤ num b
      · rw [if_pos ht]
        have h0 : root (sq (of (num b % top))) ≠ 0 := fun hc => h2 (.inr ⟨hc, ht⟩)
        rw [neg_odd he h0]
        have hm := Nat.mod_add_div (num b) top
        have h1 : num b / top = 1 := Nat.div_eq_of_lt_le (by omega) (by omega)
        rw [h1] at hm
        omega
      · rw [if_neg ht, he]
        rw [Nat.mod_eq_of_lt (by omega)]; omega
theorem dec_enc {P : F × F} (h : On P) : dec (enc P) = some P := by
  obtain ⟨x, y⟩ := P
  have hx := on_iff.1 h
  have hy := y.isLt
  have hpt := p_top
  have hs := sqr_of hx
  have hr := root_sq hs
  have hm : (y.val + top * (x.val % 2)) % top = y.val := by rw [Nat.add_mul_mod_self_left, Nat.mod_eq_of_lt (by omega)]
  have ht : top ≤ y.val + top * (x.val % 2) ↔ x.val % 2 = 1 := by
    rcases (show x.val % 2 = 0 ∨ x.val % 2 = 1 by omega) with h | h <;> rw [h] <;> omega
  unfold dec
  rw [num_enc, enc_length]
  simp only
  rw [hm, of_val, if_neg (by rintro (hc | hc) <;> omega)]
  have hre := root_even (sq y)
  rcases roots_two (hx.trans hr.symm) with e | e
  · have hev : x.val % 2 = 0 := by rw [e]; exact hre
    rw [if_neg (by rintro (hc | ⟨_, hc⟩); (· exact hc hs); (· rw [ht] at hc; omega)), if_neg (by rw [ht]; omega), ← e]
  · by_cases h0 : root (sq y) = 0
    · have hx0 : x = 0 := by rw [e, h0]; decide +kernel
      have hev : x.val % 2 = 0 := by rw [hx0]; rfl
      rw [if_neg (by rintro (hc | ⟨_, hc⟩); (· exact hc hs); (· rw [ht] at hc; omega)), if_neg (by rw [ht]; omega), h0, hx0]
    · have hod : x.val % 2 = 1 := by rw [e]; exact neg_odd hre h0
      rw [if_neg (by rintro (hc | ⟨hc, _⟩); (· exact hc hs); (· exact h0 hc)), if_pos (ht.2 hod), ← e]
theorem enc_inj {P Q : F × F} (h : On P) (k : On Q) (e : enc P = enc Q) : P = Q := by
  have h1 := dec_enc h
  rw [e, dec_enc k] at h1
  injection h1 with h1
  exact h1.symm
theorem ofB_le (x : F) : of (ofB (le 32 x.val)) = x := by
  have hl := x.isLt
  have hv : num (le 32 x.val) = x.val := le_num 32 x.val (by unfold p at hl; omega)
  unfold ofB
  rw [List.take_of_length_le (by rw [le_length]; omega), hv, show x.val % 57896044618658097711785492504343953926634992332820282019728792003956564819968 = x.val from Nat.mod_eq_of_lt (by unfold p at hl; omega), Nat.mod_eq_of_lt hl, of_val]
end Ed
end
end Go.Proofs.Ytopimmomkapdoaa
