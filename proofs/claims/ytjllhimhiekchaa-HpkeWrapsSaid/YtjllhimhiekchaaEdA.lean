/- The curve -x^2 + y^2 = 1 + d x^2 y^2 over the field of 2^255 - 19: its points are a group. No program in sight. Multiples of a point; points by quotients; the base and its order. No program in sight. -/
import Derived.Test.YtjllhimhiekchaaFieldS
import Derived.Test.YtjllhimhiekchaaNt
/- The field of 2^255 - 19 as a ring whose laws 'grind' knows: inverses, squares, roots. No program in sight. -/
namespace Go.Proofs.Ytjllhimhiekchaa
namespace Fp
theorem p_pos : 0 < p := by unfold p; omega
theorem p_two : 2 < p := by unfold p; omega
theorem prm : Nt.Prm p := Nt.prm_p
instance : NeZero p := ⟨by unfold p; omega⟩
/-- The field. -/
abbrev F := Fin p
def of (x : Nat) : F := ⟨x % p, Nat.mod_lt _ p_pos⟩
theorem of_val (a : F) : of a.val = a := Fin.ext (Nat.mod_eq_of_lt a.isLt)
theorem val_of (x : Nat) : (of x).val = x % p := rfl
theorem val_add (a b : F) : (a + b).val = (a.val + b.val) % p := Fin.val_add a b
theorem val_mul (a b : F) : (a * b).val = a.val * b.val % p := Fin.val_mul a b
theorem val_sub (a b : F) : (a - b).val = (a.val + p - b.val) % p := by
  have := a.isLt; have := b.isLt
  rw [Fin.sub_def]; show (p - b.val + a.val) % p = _
  congr 1; omega
theorem val_zero : (0 : F).val = 0 := rfl
theorem val_one : (1 : F).val = 1 := rfl
theorem of_add (x y : Nat) : of (x + y) = of x + of y := Fin.ext (by rw [val_add, val_of, val_of, val_of, Nat.add_mod])
theorem of_mul (x y : Nat) : of (x * y) = of x * of y := Fin.ext (by rw [val_mul, val_of, val_of, val_of, Nat.mul_mod])
theorem val_inj {a b : F} : a.val = b.val ↔ a = b := ⟨Fin.ext, fun h => by rw [h]⟩
theorem val_eq_zero {a : F} : a.val = 0 ↔ a = 0 := val_inj (b := 0)
theorem zero_or {a b : F} (h : a * b = 0) : a = 0 ∨ b = 0 := by
  have hv : a.val * b.val % p = 0 := by rw [← val_mul, h]; rfl
  rcases prm.dvd_mul (Nat.dvd_of_mod_eq_zero hv) with hd | hd
  · left; exact val_eq_zero.1 (Nat.eq_zero_of_dvd_of_lt hd a.isLt)
  · right; exact val_eq_zero.1 (Nat.eq_zero_of_dvd_of_lt hd b.isLt)
theorem cancel {a b c : F} (ha : a ≠ 0) (h : a * b = a * c) : b = c := by
  have : a * (b - c) = 0 := by grind
  rcases zero_or this with h | h
  · exact absurd h ha
  · grind
/-- Powers. -/
def pow (a : F) (e : Nat) : F := of (a.val ^ e)
theorem pow_val (a : F) (e : Nat) : (pow a e).val = a.val ^ e % p := rfl
theorem pow_zero (a : F) : pow a 0 = 1 := by unfold pow; rw [Nat.pow_zero]; rfl
theorem pow_succ (a : F) (e : Nat) : pow a (e + 1) = pow a e * a := by unfold pow; rw [Nat.pow_succ, of_mul, of_val]
theorem pow_one (a : F) : pow a 1 = a := by rw [show (1 : Nat) = 0 + 1 from rfl, pow_succ, pow_zero]; grind
theorem pow_add (a : F) (m n : Nat) : pow a (m + n) = pow a m * pow a n := by
  unfold pow; rw [Nat.pow_add, of_mul]
theorem pow_mul (a : F) (m n : Nat) : pow a (m * n) = pow (pow a m) n := by
  induction n with
  | zero => rw [Nat.mul_zero, pow_zero, pow_zero]
  | succ n ih => rw [Nat.mul_succ, pow_add, ih, pow_succ]
theorem one_pow (n : Nat) : pow 1 n = 1 := by
  induction n with
  | zero => rw [pow_zero]
  | succ n ih => rw [pow_succ, ih]; grind
theorem zero_pow {n : Nat} (h : 0 < n) : pow 0 n = 0 := by
  obtain ⟨m, rfl⟩ : ∃ m, n = m + 1 := ⟨n - 1, by omega⟩
  rw [pow_succ]; grind
theorem pow_double (a : F) (n : Nat) : pow a (2 * n) = pow a n * pow a n := by rw [Nat.two_mul, pow_add]
theorem fermat {a : F} (h : a ≠ 0) : pow a (p - 1) = 1 := by
  have := Nt.fermat1 prm (a := a.val) (fun hd => h (val_eq_zero.1 (Nat.eq_zero_of_dvd_of_lt hd a.isLt)))
  exact Fin.ext this
/-- What makes 1. -/
def inv (a : F) : F := pow a (p - 2)
theorem mul_inv {a : F} (h : a ≠ 0) : a * inv a = 1 := by
  have hf := fermat h
  have hp := p_two
  rw [show p - 1 = (p - 2) + 1 by omega, pow_succ] at hf
  unfold inv; grind
theorem inv_ne {a : F} (h : a ≠ 0) : inv a ≠ 0 := fun hc => by
  have h1 := mul_inv h
  rw [hc] at h1
  have : (0 : F) = 1 := by grind
  have := congrArg Fin.val this
  rw [val_zero, val_one] at this; cases this
theorem one_ne : (1 : F) ≠ 0 := fun h => by have := congrArg Fin.val h; rw [val_zero, val_one] at this; cases this
theorem inv_unique {a b : F} (h : a * b = 1) : b = inv a := by
  have ha : a ≠ 0 := fun hc => one_ne (by rw [← h, hc]; grind)
  exact cancel ha (by rw [h, mul_inv ha])
/-- Is it a square? -/
def half : Nat := 28948022309329048855892746252171976963317496166410141009864396001978282409974
theorem half_p : p - 1 = 2 * half := rfl
def Sqr (a : F) : Prop := pow a half = 0 ∨ pow a half = 1
instance (a : F) : Decidable (Sqr a) := inferInstanceAs (Decidable (_ ∨ _))
theorem sqr_of {a x : F} (h : x * x = a) : Sqr a := by
  by_cases hx : x = 0
  · left
    subst hx; rw [← h, show (0 : F) * 0 = 0 by grind]
    exact zero_pow (by unfold half; omega)
  · right
    rw [← h, show x * x = pow x 2 by rw [show (2 : Nat) = 2 * 1 from rfl, pow_double, pow_one], ← pow_mul, ← half_p]
    exact fermat hx
def e8 : Nat := 7237005577332262213973186563042994240829374041602535252466099000494570602494
/-- The root of -1. -/
def im : F := of 19681161376707505956807079304988542015446066515923890162744021073123829784752
/-- The first guess, and the other one. -/
def guess (a : F) : F := pow a e8
/-- The root that is even. -/
def root (a : F) : F := let x := if guess a * guess a = a then guess a else guess a * im; if x.val % 2 = 1 then -x else x
end Fp
end Go.Proofs.Ytjllhimhiekchaa

namespace Go.Proofs.Ytjllhimhiekchaa
section
namespace Ed
open Fp
def d : F := of 37095705934669439343138083508754565189542113879843219016388785533085940283555
theorem d_no : pow d half = -1 := Fin.ext (by
  rw [pow_val, show d.val = 37095705934669439343138083508754565189542113879843219016388785533085940283555 from rfl, ← Nt.pw_spec p 256 _ half (by decide +kernel)]
  decide +kernel)
theorem two_ne : (2 : F) ≠ 0 := by decide +kernel
theorem no_sqr : ¬ Sqr d := fun h => by
  have h1 := d_no
  rcases h with h | h
  · rw [h] at h1; exact absurd h1 (by decide +kernel)
  · rw [h] at h1; exact absurd h1 (by decide +kernel)
theorem im_sq : im * im = -1 := by decide +kernel
def On (P : F × F) : Prop := P.2 * P.2 - P.1 * P.1 = 1 + d * P.1 * P.1 * P.2 * P.2
instance (P : F × F) : Decidable (On P) := inferInstanceAs (Decidable (_ = _))
def add (P Q : F × F) : F × F := ((P.1 * Q.2 + Q.1 * P.2) * inv (1 + d * P.1 * Q.1 * P.2 * Q.2), (P.2 * Q.2 + P.1 * Q.1) * inv (1 - d * P.1 * Q.1 * P.2 * Q.2))
def O : F × F := (0, 1)
/-- No square is d times a square but 0. -/
theorem d_sqr {a b : F} (h : a * a = d * (b * b)) : b = 0 := by
  by_cases hb : b = 0
  · exact hb
  · exfalso
    apply no_sqr
    have hi := mul_inv hb
    refine sqr_of (x := a * inv b) ?_
    have : a * inv b * (a * inv b) = (a * a) * (inv b * inv b) := by grind
    rw [this, h]
    have h2 : d * (b * b) * (inv b * inv b) = d * ((b * inv b) * (b * inv b)) := by grind
    rw [h2, hi]; grind
theorem ring0 (e : F) : (1 : F) + e * 0 * 0 * 0 * 0 = 1 := by
  have h : e * 0 * 0 * 0 * 0 = 0 := by grind
  rw [h]; decide +kernel
theorem ring1 : (0 : F) * 0 - 0 * 0 = 0 := by decide +kernel
theorem sq_ne {x y : F} (h : On (x, y)) : ¬ (x = 0 ∧ y = 0) := fun ⟨h1, h2⟩ => by
  subst h1; subst h2
  unfold On at h
  simp only at h
  rw [ring0, ring1] at h
  exact one_ne h.symm
theorem mul_ne {a b : F} (ha : a ≠ 0) (hb : b ≠ 0) : a * b ≠ 0 := fun h => (zero_or h).elim ha hb
/-- The sum has no exception. -/
theorem no_pole {x1 y1 x2 y2 e : F} (h1 : On (x1, y1)) (h2 : On (x2, y2)) (he : e * e = 1) : d * x1 * x2 * y1 * y2 ≠ e := fun hc => by
  unfold On at h1 h2
  simp only at h1 h2
  have hi := im_sq
  have hd : d * (im * im) = -d := by rw [hi]; grind
  have hen : e ≠ 0 := fun h0 => one_ne (by rw [← he, h0]; grind)
  have hxy : x1 * y1 ≠ 0 := fun h0 => hen (by rw [← hc]; grind)
  -- (i x1 + e' y1)^2 = - d x1^2 y1^2 (i x2 + y2)^2 , both signs
  have a1 : (im * x1 + e * y1) * (im * x1 + e * y1) = d * ((x1 * y1 * (im * x2 + y2)) * (x1 * y1 * (im * x2 + y2))) := by grind
  have a2 : (im * x1 - e * y1) * (im * x1 - e * y1) = d * ((x1 * y1 * (im * x2 - y2)) * (x1 * y1 * (im * x2 - y2))) := by grind
  have him : im ≠ 0 := fun h0 => one_ne (by rw [h0] at hi; grind)
  have c1 := (zero_or (d_sqr a1)).resolve_left hxy
  have c2 := (zero_or (d_sqr a2)).resolve_left hxy
  have hy : 2 * y2 = 0 := by grind
  have hy' := (zero_or hy).resolve_left two_ne
  have hx : im * x2 = 0 := by grind
  exact sq_ne (x := x2) (y := y2) (by unfold On; exact h2) ⟨(zero_or hx).resolve_left him, hy'⟩
theorem pole_p {x1 y1 x2 y2 : F} (h1 : On (x1, y1)) (h2 : On (x2, y2)) : 1 + d * x1 * x2 * y1 * y2 ≠ 0 := fun h =>
  no_pole h1 h2 (e := -1) (by decide +kernel) (by grind)
theorem pole_m {x1 y1 x2 y2 : F} (h1 : On (x1, y1)) (h2 : On (x2, y2)) : 1 - d * x1 * x2 * y1 * y2 ≠ 0 := fun h =>
  no_pole h1 h2 (e := 1) (by decide +kernel) (by grind)
theorem assocx {x1 y1 x2 y2 x3 y3 : F} (E1 : On (x1, y1)) (E2 : On (x2, y2)) (E3 : On (x3, y3)) :
    ((x1*y2+x2*y1)*(1-d*x1*x2*y1*y2)*y3 + x3*(y1*y2+x1*x2)*(1+d*x1*x2*y1*y2)) * ((1-d*x2*x3*y2*y3)*(1+d*x2*x3*y2*y3) + d*x1*y1*(x2*y3+x3*y2)*(y2*y3+x2*x3))
    = (x1*(y2*y3+x2*x3)*(1+d*x2*x3*y2*y3) + (x2*y3+x3*y2)*(1-d*x2*x3*y2*y3)*y1) * ((1-d*x1*x2*y1*y2)*(1+d*x1*x2*y1*y2) + d*x3*y3*(x1*y2+x2*y1)*(y1*y2+x1*x2)) := by
  unfold On at E1 E2 E3
  simp only at E1 E2 E3
  generalize d = e at *
  grind
theorem assocy {x1 y1 x2 y2 x3 y3 : F} (E1 : On (x1, y1)) (E2 : On (x2, y2)) (E3 : On (x3, y3)) :
    ((y1*y2+x1*x2)*(1+d*x1*x2*y1*y2)*y3 + x3*(x1*y2+x2*y1)*(1-d*x1*x2*y1*y2)) * ((1-d*x2*x3*y2*y3)*(1+d*x2*x3*y2*y3) - d*x1*y1*(x2*y3+x3*y2)*(y2*y3+x2*x3))
    = (y1*(y2*y3+x2*x3)*(1+d*x2*x3*y2*y3) + (x2*y3+x3*y2)*(1-d*x2*x3*y2*y3)*x1) * ((1-d*x1*x2*y1*y2)*(1+d*x1*x2*y1*y2) - d*x3*y3*(x1*y2+x2*y1)*(y1*y2+x1*x2)) := by
  unfold On at E1 E2 E3
  simp only at E1 E2 E3
  generalize d = e at *
  grind
theorem onadd {x1 y1 x2 y2 : F} (E1 : On (x1, y1)) (E2 : On (x2, y2)) :
    ((y1*y2+x1*x2)*(1+d*x1*x2*y1*y2))*((y1*y2+x1*x2)*(1+d*x1*x2*y1*y2)) - ((x1*y2+x2*y1)*(1-d*x1*x2*y1*y2))*((x1*y2+x2*y1)*(1-d*x1*x2*y1*y2))
    = ((1-d*x1*x2*y1*y2)*(1+d*x1*x2*y1*y2))*((1-d*x1*x2*y1*y2)*(1+d*x1*x2*y1*y2)) + d * ((y1*y2+x1*x2)*(y1*y2+x1*x2)) * ((x1*y2+x2*y1)*(x1*y2+x2*y1)) := by
  unfold On at E1 E2
  simp only at E1 E2
  generalize d = e at *
  grind
/-- Quotients. -/
theorem eq_div {a b c : F} (hb : b ≠ 0) (h : a = c * b) : c = a * inv b := by
  have := mul_inv hb
  grind
theorem div_mul {a b : F} (hb : b ≠ 0) : a * inv b * b = a := by
  have := mul_inv hb
  grind
theorem pole_P {P Q : F × F} (h1 : On P) (h2 : On Q) : 1 + d * P.1 * Q.1 * P.2 * Q.2 ≠ 0 := pole_p (x1 := P.1) (y1 := P.2) (x2 := Q.1) (y2 := Q.2) h1 h2
theorem pole_M {P Q : F × F} (h1 : On P) (h2 : On Q) : 1 - d * P.1 * Q.1 * P.2 * Q.2 ≠ 0 := pole_m (x1 := P.1) (y1 := P.2) (x2 := Q.1) (y2 := Q.2) h1 h2
theorem add_x {P Q : F × F} (h1 : On P) (h2 : On Q) : (add P Q).1 * (1 + d * P.1 * Q.1 * P.2 * Q.2) = P.1 * Q.2 + Q.1 * P.2 := div_mul (pole_p h1 h2)
theorem add_y {P Q : F × F} (h1 : On P) (h2 : On Q) : (add P Q).2 * (1 - d * P.1 * Q.1 * P.2 * Q.2) = P.2 * Q.2 + P.1 * Q.1 := div_mul (pole_m h1 h2)
theorem on_add {P Q : F × F} (h1 : On P) (h2 : On Q) : On (add P Q) := by
  obtain ⟨x1, y1⟩ := P
  obtain ⟨x2, y2⟩ := Q
  have hx := add_x h1 h2
  have hy := add_y h1 h2
  have hp := pole_p h1 h2
  have hm := pole_m h1 h2
  have ho := onadd h1 h2
  generalize add (x1, y1) (x2, y2) = R at *
  obtain ⟨x, y⟩ := R
  simp only at hx hy
  unfold On
  simp only
  have hpm := mul_ne (mul_ne hp hm) (mul_ne hp hm)
  refine cancel hpm ?_
  generalize d = e at *
  generalize hp1 : 1 + e * x1 * x2 * y1 * y2 = s at *
  generalize hm1 : 1 - e * x1 * x2 * y1 * y2 = t at *
  rw [← hx, ← hy] at ho
  clear hx hy hp hm hp1 hm1 hpm h1 h2
  grind
theorem on_O : On O := by decide +kernel
theorem add_comm (P Q : F × F) : add P Q = add Q P := by
  obtain ⟨x1, y1⟩ := P
  obtain ⟨x2, y2⟩ := Q
  unfold add
  simp only
  have e1 : x1 * y2 + x2 * y1 = x2 * y1 + x1 * y2 := by grind
  have e2 : y1 * y2 + x1 * x2 = y2 * y1 + x2 * x1 := by grind
  have e3 : d * x1 * x2 * y1 * y2 = d * x2 * x1 * y2 * y1 := by grind
  rw [e1, e2, e3]
theorem inv_one : inv (1 : F) = 1 := (inv_unique (a := 1) (b := 1) (by decide +kernel)).symm
theorem add_O (P : F × F) : add P O = P := by
  obtain ⟨x, y⟩ := P
  unfold add O
  simp only
  have e1 : x * 1 + 0 * y = x := by grind
  have e2 : y * 1 + x * 0 = y := by grind
  have e3 : d * x * 0 * y * 1 = 0 := by grind
  have e4 : (1 : F) + 0 = 1 := by decide +kernel
  have e5 : (1 : F) - 0 = 1 := by decide +kernel
  rw [e1, e2, e3, e4, e5, inv_one]
  clear e1 e2 e3 e4 e5
  have e6 : x * 1 = x := by grind
  have e7 : y * 1 = y := by grind
  rw [e6, e7]
theorem fin_div {A B n m u r : F} (hA : A ≠ 0) (hB : B ≠ 0) (hu : u * A = n) (hr : r * B = m) (key : n * B = m * A) : u = r := by
  refine cancel (mul_ne hA hB) ?_
  rw [← hu, ← hr] at key
  clear hu hr hA hB
  grind
theorem add_assoc {P Q R : F × F} (h1 : On P) (h2 : On Q) (h3 : On R) : add (add P Q) R = add P (add Q R) := by
  have h12 := on_add h1 h2
  have h23 := on_add h2 h3
  have x12 := add_x h1 h2
  have y12 := add_y h1 h2
  have x23 := add_x h2 h3
  have y23 := add_y h2 h3
  have xl := add_x h12 h3
  have yl := add_y h12 h3
  have xr := add_x h1 h23
  have yr := add_y h1 h23
  have pl := pole_P h12 h3
  have ml := pole_M h12 h3
  have pr := pole_P h1 h23
  have mr := pole_M h1 h23
  have p12 := pole_P h1 h2
  have m12 := pole_M h1 h2
  have p23 := pole_P h2 h3
  have m23 := pole_M h2 h3
  have ax := assocx h1 h2 h3
  have ay := assocy h1 h2 h3
  generalize add (add P Q) R = L at *
  generalize add P (add Q R) = M at *
  generalize add P Q = S at *
  generalize add Q R = T at *
  obtain ⟨x1, y1⟩ := P; obtain ⟨x2, y2⟩ := Q; obtain ⟨x3, y3⟩ := R; obtain ⟨a, b⟩ := S; obtain ⟨f, g⟩ := T; obtain ⟨u, v⟩ := L; obtain ⟨r, s⟩ := M
  simp only at *
  clear h1 h2 h3 h12 h23
  have hne := mul_ne (mul_ne p12 m12) (mul_ne p23 m23)
  generalize d = e at *
  refine Prod.ext ?_ ?_
  · show u = r
    refine fin_div pl pr xl xr (cancel hne ?_)
    rw [← x12, ← y12, ← x23, ← y23] at ax
    clear xl yl xr yr pl ml pr mr ay x12 y12 x23 y23 hne p12 m12 p23 m23
    generalize 1 + e * x1 * x2 * y1 * y2 = A at *
    generalize 1 - e * x1 * x2 * y1 * y2 = B at *
    generalize 1 + e * x2 * x3 * y2 * y3 = C at *
    generalize 1 - e * x2 * x3 * y2 * y3 = D at *
    grind
  · show v = s
    refine fin_div ml mr yl yr (cancel hne ?_)
    rw [← x12, ← y12, ← x23, ← y23] at ay
    clear xl yl xr yr pl ml pr mr ax x12 y12 x23 y23 hne p12 m12 p23 m23
    generalize 1 + e * x1 * x2 * y1 * y2 = A at *
    generalize 1 - e * x1 * x2 * y1 * y2 = B at *
    generalize 1 + e * x2 * x3 * y2 * y3 = C at *
    generalize 1 - e * x2 * x3 * y2 * y3 = D at *
    grind
end Ed
end
section
namespace Ed
open Fp
theorem O_add (P : F × F) : add O P = P := by rw [add_comm, add_O]
/-- As often. -/
def mul : Nat → F × F → F × F
  | 0, _ => O
  | n + 1, P => add (mul n P) P
theorem on_mul {P : F × F} (h : On P) : ∀ n, On (mul n P)
  | 0 => on_O
  | n + 1 => on_add (on_mul h n) h
theorem mul_one (P : F × F) : mul 1 P = P := O_add P
theorem mul_add {P : F × F} (h : On P) (m : Nat) : ∀ n, mul (m + n) P = add (mul m P) (mul n P)
  | 0 => (add_O _).symm
  | n + 1 => by
    show add (mul (m + n) P) P = add (mul m P) (add (mul n P) P)
    rw [mul_add h m n, add_assoc (on_mul h m) (on_mul h n) h]
theorem mul_O : ∀ n, mul n O = O
  | 0 => rfl
  | n + 1 => by show add (mul n O) O = O; rw [mul_O n, add_O]
theorem mul_mul {P : F × F} (h : On P) (m : Nat) : ∀ n, mul (m * n) P = mul n (mul m P)
  | 0 => rfl
  | n + 1 => by
    show mul (m * n + m) P = add (mul n (mul m P)) (mul m P)
    rw [mul_add h, mul_mul h m n]
/-- With a multiple of the order of P taken away. -/
theorem mul_mod {P : F × F} (h : On P) {L : Nat} (hL : mul L P = O) (n : Nat) : mul (n % L) P = mul n P := by
  have e := Nat.div_add_mod n L
  have : mul n P = mul (n % L) P := by
    rw [← e, mul_add h, mul_mul h, hL, mul_O, O_add, e]
  exact this.symm
/-! Points by quotients. -/
structure Q4 where
  (x y z t : F)
/-- What the four stand for. -/
def Rep (q : Q4) (P : F × F) : Prop := q.z ≠ 0 ∧ q.x = P.1 * q.z ∧ q.y = P.2 * q.z ∧ q.t * q.z = q.x * q.y
def L : Nat := 7237005577332262213973186563042994240857116359379907606001950938285454250989
def B : F × F := (of 15112221349535400772501151409588531511454012693041857206046113283949847762202, of 46316835694926478169428394003475163141307993866256225615783033603165251855960)
end Ed
end
end Go.Proofs.Ytjllhimhiekchaa
