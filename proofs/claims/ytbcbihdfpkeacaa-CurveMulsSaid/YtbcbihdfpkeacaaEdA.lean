/- The curve -x^2 + y^2 = 1 + d x^2 y^2 over the field of 2^255 - 19: its points are a group. No program in sight. -/
import Derived.Test.YtbcbihdfpkeacaaFieldK
namespace Go.Proofs.Ytbcbihdfpkeacaa
namespace Ed
open Fp
def d : F := of 37095705934669439343138083508754565189542113879843219016388785533085940283555
theorem d_is : d * of 121666 = - of 121665 := by decide +kernel
theorem d_no : pow d half = -1 := Fin.ext (by
  rw [pow_val, show d.val = 37095705934669439343138083508754565189542113879843219016388785533085940283555 from rfl, ← Nt.pw_spec p 256 _ half (by decide +kernel)]
  decide +kernel)
theorem two_ne : (2 : F) ≠ 0 := by decide +kernel
theorem no_sqr : ¬ Sqr d := fun h => by
  have h1 := d_no
  rcases h with h | h
  · rw [h] at h1; exact absurd h1 (by decide +kernel)
  · rw [h] at h1; exact absurd h1 (by decide +kernel)
theorem im_sq : im * im = -1 := by decide +kernel
def On (P : F × F) : Prop := P.2 * P.2 - P.1 * P.1 = 1 + d * P.1 * P.1 * P.2 * P.2
instance (P : F × F) : Decidable (On P) := inferInstanceAs (Decidable (_ = _))
def add (P Q : F × F) : F × F := ((P.1 * Q.2 + Q.1 * P.2) * inv (1 + d * P.1 * Q.1 * P.2 * Q.2), (P.2 * Q.2 + P.1 * Q.1) * inv (1 - d * P.1 * Q.1 * P.2 * Q.2))
def O : F × F := (0, 1)
def neg (P : F × F) : F × F := (-P.1, P.2)
/-- No square is d times a square but 0. -/
theorem d_sqr {a b : F} (h : a * a = d * (b * b)) : b = 0 := by
  by_cases hb : b = 0
  · exact hb
  · exfalso
    apply no_sqr
    have hi := mul_inv hb
    refine sqr_of (x := a * inv b) ?_
    have : a * inv b * (a * inv b) = (a * a) * (inv b * inv b) := by grind
    rw [this, h]
    have h2 : d * (b * b) * (inv b * inv b) = d * ((b * inv b) * (b * inv b)) := by grind
    rw [h2, hi]; grind
theorem mul_z (e : F) : e * 0 = 0 := by grind
theorem ring0 (e : F) : (1 : F) + e * 0 * 0 * 0 * 0 = 1 := by
  have h : e * 0 * 0 * 0 * 0 = 0 := by grind
  rw [h]; decide +kernel
theorem ring1 : (0 : F) * 0 - 0 * 0 = 0 := by decide +kernel
theorem sq_ne {x y : F} (h : On (x, y)) : ¬ (x = 0 ∧ y = 0) := fun ⟨h1, h2⟩ => by
  subst h1; subst h2
  unfold On at h
  simp only at h
  rw [ring0, ring1] at h
  exact one_ne h.symm
theorem mul_ne {a b : F} (ha : a ≠ 0) (hb : b ≠ 0) : a * b ≠ 0 := fun h => (zero_or h).elim ha hb
/-- The sum has no exception. -/
theorem no_pole {x1 y1 x2 y2 e : F} (h1 : On (x1, y1)) (h2 : On (x2, y2)) (he : e * e = 1) : d * x1 * x2 * y1 * y2 ≠ e := fun hc => by
  unfold On at h1 h2
  simp only at h1 h2
  have hi := im_sq
  have hd : d * (im * im) = -d := by rw [hi]; grind
  have hen : e ≠ 0 := fun h0 => one_ne (by rw [← he, h0]; grind)
  have hxy : x1 * y1 ≠ 0 := fun h0 => hen (by rw [← hc]; grind)
  -- (i x1 + e' y1)^2 = - d x1^2 y1^2 (i x2 + y2)^2 , both signs
  have a1 : (im * x1 + e * y1) * (im * x1 + e * y1) = d * ((x1 * y1 * (im * x2 + y2)) * (x1 * y1 * (im * x2 + y2))) := by grind
  have a2 : (im * x1 - e * y1) * (im * x1 - e * y1) = d * ((x1 * y1 * (im * x2 - y2)) * (x1 * y1 * (im * x2 - y2))) := by grind
  have him : im ≠ 0 := fun h0 => one_ne (by rw [h0] at hi; grind)
  have c1 := (zero_or (d_sqr a1)).resolve_left hxy
  have c2 := (zero_or (d_sqr a2)).resolve_left hxy
  have hy : 2 * y2 = 0 := by grind
  have hy' := (zero_or hy).resolve_left two_ne
  have hx : im * x2 = 0 := by grind
  exact sq_ne (x := x2) (y := y2) (by unfold On; exact h2) ⟨(zero_or hx).resolve_left him, hy'⟩
theorem pole_p {x1 y1 x2 y2 : F} (h1 : On (x1, y1)) (h2 : On (x2, y2)) : 1 + d * x1 * x2 * y1 * y2 ≠ 0 := fun h =>
  no_pole h1 h2 (e := -1) (by decide +kernel) (by grind)
theorem pole_m {x1 y1 x2 y2 : F} (h1 : On (x1, y1)) (h2 : On (x2, y2)) : 1 - d * x1 * x2 * y1 * y2 ≠ 0 := fun h =>
  no_pole h1 h2 (e := 1) (by decide +kernel) (by grind)
theorem assocx {x1 y1 x2 y2 x3 y3 : F} (E1 : On (x1, y1)) (E2 : On (x2, y2)) (E3 : On (x3, y3)) :
    ((x1*y2+x2*y1)*(1-d*x1*x2*y1*y2)*y3 + x3*(y1*y2+x1*x2)*(1+d*x1*x2*y1*y2)) * ((1-d*x2*x3*y2*y3)*(1+d*x2*x3*y2*y3) + d*x1*y1*(x2*y3+x3*y2)*(y2*y3+x2*x3))
    = (x1*(y2*y3+x2*x3)*(1+d*x2*x3*y2*y3) + (x2*y3+x3*y2)*(1-d*x2*x3*y2*y3)*y1) * ((1-d*x1*x2*y1*y2)*(1+d*x1*x2*y1*y2) + d*x3*y3*(x1*y2+x2*y1)*(y1*y2+x1*x2)) := by
  unfold On at E1 E2 E3
  simp only at E1 E2 E3
  generalize d = e at *
  grind
theorem assocy {x1 y1 x2 y2 x3 y3 : F} (E1 : On (x1, y1)) (E2 : On (x2, y2)) (E3 : On (x3, y3)) :
    ((y1*y2+x1*x2)*(1+d*x1*x2*y1*y2)*y3 + x3*(x1*y2+x2*y1)*(1-d*x1*x2*y1*y2)) * ((1-d*x2*x3*y2*y3)*(1+d*x2*x3*y2*y3) - d*x1*y1*(x2*y3+x3*y2)*(y2*y3+x2*x3))
    = (y1*(y2*y3+x2*x3)*(1+d*x2*x3*y2*y3) + (x2*y3+x3*y2)*(1-d*x2*x3*y2*y3)*x1) * ((1-d*x1*x2*y1*y2)*(1+d*x1*x2*y1*y2) - d*x3*y3*(x1*y2+x2*y1)*(y1*y2+x1*x2)) := by
  unfold On at E1 E2 E3
  simp only at E1 E2 E3
  generalize d = e at *
  grind
theorem onadd {x1 y1 x2 y2 : F} (E1 : On (x1, y1)) (E2 : On (x2, y2)) :
    ((y1*y2+x1*x2)*(1+d*x1*x2*y1*y2))*((y1*y2+x1*x2)*(1+d*x1*x2*y1*y2)) - ((x1*y2+x2*y1)*(1-d*x1*x2*y1*y2))*((x1*y2+x2*y1)*(1-d*x1*x2*y1*y2))
    = ((1-d*x1*x2*y1*y2)*(1+d*x1*x2*y1*y2))*((1-d*x1*x2*y1*y2)*(1+d*x1*x2*y1*y2)) + d * ((y1*y2+x1*x2)*(y1*y2+x1*x2)) * ((x1*y2+x2*y1)*(x1*y2+x2*y1)) := by
  unfold On at E1 E2
  simp only at E1 E2
  generalize d = e at *
  grind
/-- Quotients. -/
theorem eq_div {a b c : F} (hb : b ≠ 0) (h : a = c * b) : c = a * inv b := by
  have := mul_inv hb
  grind
theorem div_mul {a b : F} (hb : b ≠ 0) : a * inv b * b = a := by
  have := mul_inv hb
  grind
theorem pole_P {P Q : F × F} (h1 : On P) (h2 : On Q) : 1 + d * P.1 * Q.1 * P.2 * Q.2 ≠ 0 := pole_p (x1 := P.1) (y1 := P.2) (x2 := Q.1) (y2 := Q.2) h1 h2
theorem pole_M {P Q : F × F} (h1 : On P) (h2 : On Q) : 1 - d * P.1 * Q.1 * P.2 * Q.2 ≠ 0 := pole_m (x1 := P.1) (y1 := P.2) (x2 := Q.1) (y2 := Q.2) h1 h2
theorem add_x {P Q : F × F} (h1 : On P) (h2 : On Q) : (add P Q).1 * (1 + d * P.1 * Q.1 * P.2 * Q.2) = P.1 * Q.2 + Q.1 * P.2 := div_mul (pole_p h1 h2)
theorem add_y {P Q : F × F} (h1 : On P) (h2 : On Q) : (add P Q).2 * (1 - d * P.1 * Q.1 * P.2 * Q.2) = P.2 * Q.2 + P.1 * Q.1 := div_mul (pole_m h1 h2)
theorem on_add {P Q : F × F} (h1 : On P) (h2 : On Q) : On (add P Q) := by
  obtain ⟨x1, y1⟩ := P
  obtain ⟨x2, y2⟩ := Q
  have hx := add_x h1 h2
  have hy := add_y h1 h2
  have hp := pole_p h1 h2
  have hm := pole_m h1 h2
  have ho := onadd h1 h2
  generalize add (x1, y1) (x2, y2) = R at *
  obtain ⟨x, y⟩ := R
  simp only at hx hy
  unfold On
  simp only
  have hpm := mul_ne (mul_ne hp hm) (mul_ne hp hm)
  refine cancel hpm ?_
  generalize d = e at *
  generalize hp1 : 1 + e * x1 * x2 * y1 * y2 = s at *
  generalize hm1 : 1 - e * x1 * x2 * y1 * y2 = t at *
  rw [← hx, ← hy] at ho
  clear hx hy hp hm hp1 hm1 hpm h1 h2
  grind
theorem on_O : On O := by decide +kernel
theorem on_neg {P : F × F} (h : On P) : On (neg P) := by
  obtain ⟨x, y⟩ := P
  unfold On neg at *
  simp only at *
  grind
theorem add_comm (P Q : F × F) : add P Q = add Q P := by
  obtain ⟨x1, y1⟩ := P
  obtain ⟨x2, y2⟩ := Q
  unfold add
  simp only
  have e1 : x1 * y2 + x2 * y1 = x2 * y1 + x1 * y2 := by grind
  have e2 : y1 * y2 + x1 * x2 = y2 * y1 + x2 * x1 := by grind
  have e3 : d * x1 * x2 * y1 * y2 = d * x2 * x1 * y2 * y1 := by grind
  rw [e1, e2, e3]
theorem inv_one : inv (1 : F) = 1 := (inv_unique (a := 1) (b := 1) (by decide +kernel)).symm
theorem add_O (P : F × F) : add P O = P := by
  obtain ⟨x, y⟩ := P
  unfold add O
  simp only
  have e1 : x * 1 + 0 * y = x := by grind
  have e2 : y * 1 + x * 0 = y := by grind
  have e3 : d * x * 0 * y * 1 = 0 := by grind
  have e4 : (1 : F) + 0 = 1 := by decide +kernel
  have e5 : (1 : F) - 0 = 1 := by decide +kernel
  rw [e1, e2, e3, e4, e5, inv_one]
  clear e1 e2 e3 e4 e5
  have e6 : x * 1 = x := by grind
  have e7 : y * 1 = y := by grind
  rw [e6, e7]
theorem add_neg {P : F × F} (h : On P) : add P (neg P) = O := by
  have hn := on_neg h
  have hx := add_x h hn
  have hy := add_y h hn
  have hp := pole_p (x1 := P.1) (y1 := P.2) (x2 := (neg P).1) (y2 := (neg P).2) h hn
  have hm := pole_m (x1 := P.1) (y1 := P.2) (x2 := (neg P).1) (y2 := (neg P).2) h hn
  refine Prod.ext ?_ ?_
  · refine cancel hp ?_
    unfold neg O at *
    simp only at *
    grind
  · refine cancel hm ?_
    unfold neg O On at *
    simp only at *
    grind
theorem fin_div {A B n m u r : F} (hA : A ≠ 0) (hB : B ≠ 0) (hu : u * A = n) (hr : r * B = m) (key : n * B = m * A) : u = r := by
  refine cancel (mul_ne hA hB) ?_
  rw [← hu, ← hr] at key
  clear hu hr hA hB
  grind
theorem add_assoc {P Q R : F × F} (h1 : On P) (h2 : On Q) (h3 : On R) : add (add P Q) R = add P (add Q R) := by
  have h12 := on_add h1 h2
  have h23 := on_add h2 h3
  have x12 := add_x h1 h2
  have y12 := add_y h1 h2
  have x23 := add_x h2 h3
  have y23 := add_y h2 h3
  have xl := add_x h12 h3
  have yl := add_y h12 h3
  have xr := add_x h1 h23
  have yr := add_y h1 h23
  have pl := pole_P h12 h3
  have ml := pole_M h12 h3
  have pr := pole_P h1 h23
  have mr := pole_M h1 h23
  have p12 := pole_P h1 h2
  have m12 := pole_M h1 h2
  have p23 := pole_P h2 h3
  have m23 := pole_M h2 h3
  have ax := assocx h1 h2 h3
  have ay := assocy h1 h2 h3
  generalize add (add P Q) R = L at *
  generalize add P (add Q R) = M at *
  generalize add P Q = S at *
  generalize add Q R = T at *
  obtain ⟨x1, y1⟩ := P; obtain ⟨x2, y2⟩ := Q; obtain ⟨x3, y3⟩ := R; obtain ⟨a, b⟩ := S; obtain ⟨f, g⟩ := T; obtain ⟨u, v⟩ := L; obtain ⟨r, s⟩ := M
  simp only at *
  clear h1 h2 h3 h12 h23
  have hne := mul_ne (mul_ne p12 m12) (mul_ne p23 m23)
  generalize d = e at *
  refine Prod.ext ?_ ?_
  · show u = r
    refine fin_div pl pr xl xr (cancel hne ?_)
    rw [← x12, ← y12, ← x23, ← y23] at ax
    clear xl yl xr yr pl ml pr mr ay x12 y12 x23 y23 hne p12 m12 p23 m23
    generalize 1 + e * x1 * x2 * y1 * y2 = A at *
    generalize 1 - e * x1 * x2 * y1 * y2 = B at *
    generalize 1 + e * x2 * x3 * y2 * y3 = C at *
    generalize 1 - e * x2 * x3 * y2 * y3 = D at *
    grind
  · show v = s
    refine fin_div ml mr yl yr (cancel hne ?_)
    rw [← x12, ← y12, ← x23, ← y23] at ay
    clear xl yl xr yr pl ml pr mr ax x12 y12 x23 y23 hne p12 m12 p23 m23
    generalize 1 + e * x1 * x2 * y1 * y2 = A at *
    generalize 1 - e * x1 * x2 * y1 * y2 = B at *
    generalize 1 + e * x2 * x3 * y2 * y3 = C at *
    generalize 1 - e * x2 * x3 * y2 * y3 = D at *
    grind
end Ed
end Go.Proofs.Ytbcbihdfpkeacaa
