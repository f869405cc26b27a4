/- The reference's Div, Primes, Root, Roots, Sum: what each hands back. -/
import Derived.Test.YtjllhimhiekchaaGreatFieldK
import Derived.Test.YtjllhimhiekchaaGreatSl
import Derived.Test.YtjllhimhiekchaaGreatSha2
/- The curve -x^2 + y^2 = 1 + d x^2 y^2 over the field of 2^255 - 19: its points are a group. No program in sight. Multiples of a point; points by quotients; the base and its order. No program in sight. -/
namespace Go.Proofs.YtjllhimhiekchaaGreat
section
namespace Ed
open Fp
def d : F := of 37095705934669439343138083508754565189542113879843219016388785533085940283555
theorem d_no : pow d half = -1 := Fin.ext (by
 rw [pow_val, show d.val = 37095705934669439343138083508754565189542113879843219016388785533085940283555 from rfl, ← Nt.pw_spec p 256 _ half (by decide +kernel)]
 decide +kernel)
theorem two_ne : (2 : F) ≠ 0 := by decide +kernel
theorem no_sqr : ¬ Sqr d := fun h => by
 have h1 := d_no
 rcases h with h | h
 ·rw [h] at h1; exact absurd h1 (by decide +kernel)
 ·rw [h] at h1; exact absurd h1 (by decide +kernel)
theorem im_sq : im * im = -1 := by decide +kernel
def On (P : F × F) : Prop := P.2 * P.2 - P.1 * P.1 = 1 + d * P.1 * P.1 * P.2 * P.2
instance (P : F × F) : Decidable (On P) := inferInstanceAs (Decidable (_ = _))
def add (P Q : F × F) : F × F := ((P.1 * Q.2 + Q.1 * P.2) * inv (1 + d * P.1 * Q.1 * P.2 * Q.2), (P.2 * Q.2 + P.1 * Q.1) * inv (1 - d * P.1 * Q.1 * P.2 * Q.2))
def O : F × F := (0, 1)
theorem d_sqr {a b : F} (h : a * a = d * (b * b)) : b = 0 := by
 by_cases hb : b = 0
 ·exact hb
 ·exfalso
  apply no_sqr
  have hi := mul_inv hb
  refine sqr_of (x := a * inv b) ?_
  have : a * inv b * (a * inv b) = (a * a) * (inv b * inv b) := by grind
  rw [this, h]
  have h2 : d * (b * b) * (inv b * inv b) = d * ((b * inv b) * (b * inv b)) := by grind
  rw [h2, hi]; grind
theorem ring0 (e : F) : (1 : F) + e * 0 * 0 * 0 * 0 = 1 := by
 have h : e * 0 * 0 * 0 * 0 = 0 := by grind
 rw [h]; decide +kernel
theorem ring1 : (0 : F) * 0 - 0 * 0 = 0 := by decide +kernel
theorem sq_ne {x y : F} (h : On (x, y)) : ¬ (x = 0 ∧ y = 0) := fun ⟨h1, h2⟩ => by
 subst h1; subst h2
 unfold On at h
 simp only at h
 rw [ring0, ring1] at h
 exact one_ne h.symm
theorem mul_ne {a b : F} (ha : a ≠ 0) (hb : b ≠ 0) : a * b ≠ 0 := fun h => (zero_or h).elim ha hb
theorem no_pole {x1 y1 x2 y2 e : F} (h1 : On (x1, y1)) (h2 : On (x2, y2)) (he : e * e = 1) : d * x1 * x2 * y1 * y2 ≠ e := fun hc => by
 unfold On at h1 h2
 simp only at h1 h2
 have hi := im_sq
 have hd : d * (im * im) = -d := by rw [hi]; grind
 have hen : e ≠ 0 := fun h0 => one_ne (by rw [← he, h0]; grind)
 have hxy : x1 * y1 ≠ 0 := fun h0 => hen (by rw [← hc]; grind)
 -- (i x1 + e' y1)^2 = - d x1^2 y1^2 (i x2 + y2)^2 , both signs
 have a1 : (im * x1 + e * y1) * (im * x1 + e * y1) = d * ((x1 * y1 * (im * x2 + y2)) * (x1 * y1 * (im * x2 + y2))) := by grind
 have a2 : (im * x1 - e * y1) * (im * x1 - e * y1) = d * ((x1 * y1 * (im * x2 - y2)) * (x1 * y1 * (im * x2 - y2))) := by grind
 have him : im ≠ 0 := fun h0 => one_ne (by rw [h0] at hi; grind)
 have c1 := (zero_or (d_sqr a1)).resolve_left hxy
 have c2 := (zero_or (d_sqr a2)).resolve_left hxy
 have hy : 2 * y2 = 0 := by grind
 have hy' := (zero_or hy).resolve_left two_ne
 have hx : im * x2 = 0 := by grind
 exact sq_ne (x := x2) (y := y2) (by unfold On; exact h2) ⟨(zero_or hx).resolve_left him, hy'⟩
theorem pole_p {x1 y1 x2 y2 : F} (h1 : On (x1, y1)) (h2 : On (x2, y2)) : 1 + d * x1 * x2 * y1 * y2 ≠ 0 := fun h =>
 no_pole h1 h2 (e := -1) (by decide +kernel) (by grind)
theorem pole_m {x1 y1 x2 y2 : F} (h1 : On (x1, y1)) (h2 : On (x2, y2)) : 1 - d * x1 * x2 * y1 * y2 ≠ 0 := fun h =>
 no_pole h1 h2 (e := 1) (by decide +kernel) (by grind)
theorem assocx {x1 y1 x2 y2 x3 y3 : F} (E1 : On (x1, y1)) (E2 : On (x2, y2)) (E3 : On (x3, y3)) :
  ((x1*y2+x2*y1)*(1-d*x1*x2*y1*y2)*y3 + x3*(y1*y2+x1*x2)*(1+d*x1*x2*y1*y2)) * ((1-d*x2*x3*y2*y3)*(1+d*x2*x3*y2*y3) + d*x1*y1*(x2*y3+x3*y2)*(y2*y3+x2*x3))
  = (x1*(y2*y3+x2*x3)*(1+d*x2*x3*y2*y3) + (x2*y3+x3*y2)*(1-d*x2*x3*y2*y3)*y1) * ((1-d*x1*x2*y1*y2)*(1+d*x1*x2*y1*y2) + d*x3*y3*(x1*y2+x2*y1)*(y1*y2+x1*x2)) := by
 unfold On at E1 E2 E3
 simp only at E1 E2 E3
 generalize d = e at *
 grind
theorem assocy {x1 y1 x2 y2 x3 y3 : F} (E1 : On (x1, y1)) (E2 : On (x2, y2)) (E3 : On (x3, y3)) :
  ((y1*y2+x1*x2)*(1+d*x1*x2*y1*y2)*y3 + x3*(x1*y2+x2*y1)*(1-d*x1*x2*y1*y2)) * ((1-d*x2*x3*y2*y3)*(1+d*x2*x3*y2*y3) - d*x1*y1*(x2*y3+x3*y2)*(y2*y3+x2*x3))
  = (y1*(y2*y3+x2*x3)*(1+d*x2*x3*y2*y3) + (x2*y3+x3*y2)*(1-d*x2*x3*y2*y3)*x1) * ((1-d*x1*x2*y1*y2)*(1+d*x1*x2*y1*y2) - d*x3*y3*(x1*y2+x2*y1)*(y1*y2+x1*x2)) := by
 unfold On at E1 E2 E3
 simp only at E1 E2 E3
 generalize d = e at *
 grind
theorem onadd {x1 y1 x2 y2 : F} (E1 : On (x1, y1)) (E2 : On (x2, y2)) :
  ((y1*y2+x1*x2)*(1+d*x1*x2*y1*y2))*((y1*y2+x1*x2)*(1+d*x1*x2*y1*y2)) - ((x1*y2+x2*y1)*(1-d*x1*x2*y1*y2))*((x1*y2+x2*y1)*(1-d*x1*x2*y1*y2))
  = ((1-d*x1*x2*y1*y2)*(1+d*x1*x2*y1*y2))*((1-d*x1*x2*y1*y2)*(1+d*x1*x2*y1*y2)) + d * ((y1*y2+x1*x2)*(y1*y2+x1*x2)) * ((x1*y2+x2*y1)*(x1*y2+x2*y1)) := by
 unfold On at E1 E2
 simp only at E1 E2
 generalize d = e at *
 grind
theorem eq_div {a b c : F} (hb : b ≠ 0) (h : a = c * b) : c = a * inv b := by
 have := mul_inv hb
 grind
theorem div_mul {a b : F} (hb : b ≠ 0) : a * inv b * b = a := by
 have := mul_inv hb
 grind
theorem pole_P {P Q : F × F} (h1 : On P) (h2 : On Q) : 1 + d * P.1 * Q.1 * P.2 * Q.2 ≠ 0 := pole_p (x1 := P.1) (y1 := P.2) (x2 := Q.1) (y2 := Q.2) h1 h2
theorem pole_M {P Q : F × F} (h1 : On P) (h2 : On Q) : 1 - d * P.1 * Q.1 * P.2 * Q.2 ≠ 0 := pole_m (x1 := P.1) (y1 := P.2) (x2 := Q.1) (y2 := Q.2) h1 h2
theorem add_x {P Q : F × F} (h1 : On P) (h2 : On Q) : (add P Q).1 * (1 + d * P.1 * Q.1 * P.2 * Q.2) = P.1 * Q.2 + Q.1 * P.2 := div_mul (pole_p h1 h2)
theorem add_y {P Q : F × F} (h1 : On P) (h2 : On Q) : (add P Q).2 * (1 - d * P.1 * Q.1 * P.2 * Q.2) = P.2 * Q.2 + P.1 * Q.1 := div_mul (pole_m h1 h2)
theorem on_add {P Q : F × F} (h1 : On P) (h2 : On Q) : On (add P Q) := by
 obtain ⟨x1, y1⟩ := P
 obtain ⟨x2, y2⟩ := Q
 have hx := add_x h1 h2
 have hy := add_y h1 h2
 have hp := pole_p h1 h2
 have hm := pole_m h1 h2
 have ho := onadd h1 h2
 generalize add (x1, y1) (x2, y2) = R at *
 obtain ⟨x, y⟩ := R
 simp only at hx hy
 unfold On
 simp only
 have hpm := mul_ne (mul_ne hp hm) (mul_ne hp hm)
 refine cancel hpm ?_
 generalize d = e at *
 generalize hp1 : 1 + e * x1 * x2 * y1 * y2 = s at *
 generalize hm1 : 1 - e * x1 * x2 * y1 * y2 = t at *
 rw [← hx, ← hy] at ho
 clear hx hy hp hm hp1 hm1 hpm h1 h2
 grind
theorem on_O : On O := by decide +kernel
theorem add_comm (P Q : F × F) : add P Q = add Q P := by
 obtain ⟨x1, y1⟩ := P
 obtain ⟨x2, y2⟩ := Q
 unfold add
 simp only
 have e1 : x1 * y2 + x2 * y1 = x2 * y1 + x1 * y2 := by grind
 have e2 : y1 * y2 + x1 * x2 = y2 * y1 + x2 * x1 := by grind
 have e3 : d * x1 * x2 * y1 * y2 = d * x2 * x1 * y2 * y1 := by grind
 rw [e1, e2, e3]
theorem inv_one : inv (1 : F) = 1 := (inv_unique (a := 1) (b := 1) (by decide +kernel)).symm
theorem add_O (P : F × F) : add P O = P := by
 obtain ⟨x, y⟩ := P
 unfold add O
 simp only
 have e1 : x * 1 + 0 * y = x := by grind
 have e2 : y * 1 + x * 0 = y := by grind
 have e3 : d * x * 0 * y * 1 = 0 := by grind
 have e4 : (1 : F) + 0 = 1 := by decide +kernel
 have e5 : (1 : F) - 0 = 1 := by decide +kernel
 rw [e1, e2, e3, e4, e5, inv_one]
 clear e1 e2 e3 e4 e5
 have e6 : x * 1 = x := by grind
 have e7 : y * 1 = y := by grind
 rw [e6, e7]
theorem fin_div {A B n m u r : F} (hA : A ≠ 0) (hB : B ≠ 0) (hu : u * A = n) (hr : r * B = m) (key : n * B = m * A) : u = r := by
 refine cancel (mul_ne hA hB) ?_
 rw [← hu, ← hr] at key
 clear hu hr hA hB
 grind
theorem add_assoc {P Q R : F × F} (h1 : On P) (h2 : On Q) (h3 : On R) : add (add P Q) R = add P (add Q R) := by
 have h12 := on_add h1 h2
 have h23 := on_add h2 h3
 have x12 := add_x h1 h2
 have y12 := add_y h1 h2
 have x23 := add_x h2 h3
 have y23 := add_y h2 h3
 have xl := add_x h12 h3
 have yl := add_y h12 h3
 have xr := add_x h1 h23
 have yr := add_y h1 h23
 have pl := pole_P h12 h3
 have ml := pole_M h12 h3
 have pr := pole_P h1 h23
 have mr := pole_M h1 h23
 have p12 := pole_P h1 h2
 have m12 := pole_M h1 h2
 have p23 := pole_P h2 h3
 have m23 := pole_M h2 h3
 have ax := assocx h1 h2 h3
 have ay := assocy h1 h2 h3
 generalize add (add P Q) R = L at *
 generalize add P (add Q R) = M at *
 generalize add P Q = S at *
 generalize add Q R = T at *
 obtain ⟨x1, y1⟩ := P; obtain ⟨x2, y2⟩ := Q; obtain ⟨x3, y3⟩ := R; obtain ⟨a, b⟩ := S; obtain ⟨f, g⟩ := T; obtain ⟨u, v⟩ := L; obtain ⟨r, s⟩ := M
 simp only at *
 clear h1 h2 h3 h12 h23
 have hne := mul_ne (mul_ne p12 m12) (mul_ne p23 m23)
 generalize d = e at *
 refine Prod.ext ?_ ?_
 ·show u = r
  refine fin_div pl pr xl xr (cancel hne ?_)
  rw [← x12, ← y12, ← x23, ← y23] at ax
  clear xl yl xr yr pl ml pr mr ay x12 y12 x23 y23 hne p12 m12 p23 m23
  generalize 1 + e * x1 * x2 * y1 * y2 = A at *
  generalize 1 - e * x1 * x2 * y1 * y2 = B at *
  generalize 1 + e * x2 * x3 * y2 * y3 = C at *
  generalize 1 - e * x2 * x3 * y2 * y3 = D at *
  grind
 ·show v = s
  refine fin_div ml mr yl yr (cancel hne ?_)
  rw [← x12, ← y12, ← x23, ← y23] at ay
  clear xl yl xr yr pl ml pr mr ax x12 y12 x23 y23 hne p12 m12 p23 m23
  generalize 1 + e * x1 * x2 * y1 * y2 = A at *
  generalize 1 - e * x1 * x2 * y1 * y2 = B at *
  generalize 1 + e * x2 * x3 * y2 * y3 = C at *
  generalize 1 - e * x2 * x3 * y2 * y3 = D at *
  grind
end Ed
end
section
namespace Ed
open Fp
theorem O_add (P : F × F) : add O P = P := by rw [add_comm, add_O]
def mul : Nat → F × F → F × F
 | 0, _ => O
 | n + 1, P => add (mul n P) P
theorem on_mul {P : F × F} (h : On P) : ∀ n, On (mul n P)
 | 0 => on_O
 | n + 1 => on_add (on_mul h n) h
theorem mul_add {P : F × F} (h : On P) (m : Nat) : ∀ n, mul (m + n) P = add (mul m P) (mul n P)
  | 0 => (add_O _).symm
  | n + 1 => by
    show add (mul (m + n) P) P = add (mul m P) (add (mul n P) P)
    rw [mul_add h m n, add_assoc (on_mul h m) (on_mul h n) h]
theorem mul_two {P : F × F} (h : On P) (n : Nat) : mul (2 * n) P = add (mul n P) (mul n P) := by rw [Nat.two_mul, mul_add h]
theorem mul_O : ∀ n, mul n O = O
 | 0 => rfl
 | n + 1 => by show add (mul n O) O = O; rw [mul_O n, add_O]
theorem mul_mul {P : F × F} (h : On P) (m : Nat) : ∀ n, mul (m * n) P = mul n (mul m P)
  | 0 => rfl
  | n + 1 => by
    show mul (m * n + m) P = add (mul n (mul m P)) (mul m P)
    rw [mul_add h, mul_mul h m n]
theorem mul_mod {P : F × F} (h : On P) {L : Nat} (hL : mul L P = O) (n : Nat) : mul (n % L) P = mul n P := by
 have e := Nat.div_add_mod n L
 have : mul n P = mul (n % L) P := by
  rw [← e, mul_add h, mul_mul h, hL, mul_O, O_add, e]
 exact this.symm
/-! Points by quotients. -/
structure Q4 where
 (x y z t : F)
def Rep (q : Q4) (P : F × F) : Prop := q.z ≠ 0 ∧ q.x = P.1 * q.z ∧ q.y = P.2 * q.z ∧ q.t * q.z = q.x * q.y
def qadd (p q : Q4) : Q4 :=
 let a := (p.y - p.x) * (q.y - q.x)
 let b := (p.y + p.x) * (q.y + q.x)
 let c := p.t * (d + d) * q.t
 let e := (p.z + p.z) * q.z
 ⟨(b - a) * (e - c), (e + c) * (b + a), (e - c) * (e + c), (b - a) * (b + a)⟩
theorem rep_t {q : Q4} {P : F × F} (h : Rep q P) : q.t = P.1 * P.2 * q.z := by
 obtain ⟨h1, h2, h3, h4⟩ := h
 refine cancel h1 ?_
 rw [h2, h3] at h4
 generalize q.t = t at *
 generalize q.z = z at *
 clear h2 h3 h1
 grind
theorem rep_add {p q : Q4} {P Q : F × F} (h : Rep p P) (k : Rep q Q) (hP : On P) (hQ : On Q) : Rep (qadd p q) (add P Q) := by
 have ht := rep_t h
 have kt := rep_t k
 have hx := add_x hP hQ
 have hy := add_y hP hQ
 have pp := pole_P hP hQ
 have pm := pole_M hP hQ
 obtain ⟨h1, h2, h3, _⟩ := h
 obtain ⟨k1, k2, k3, _⟩ := k
 generalize add P Q = R at *
 obtain ⟨x1, y1⟩ := P; obtain ⟨x2, y2⟩ := Q; obtain ⟨x, y⟩ := R
 obtain ⟨a, b, z1, t1⟩ := p; obtain ⟨e, f, z2, t2⟩ := q
 simp only at *
 clear hP hQ
 subst h2 h3 k2 k3 ht kt
 unfold qadd Rep
 simp only
 generalize d = D at *
 have eF : (y1 * z1 + x1 * z1) * (y2 * z2 + x2 * z2) - (y1 * z1 - x1 * z1) * (y2 * z2 - x2 * z2) = 2 * (z1 * z2) * (x1 * y2 + x2 * y1) := by grind
 have eI : (y1 * z1 + x1 * z1) * (y2 * z2 + x2 * z2) + (y1 * z1 - x1 * z1) * (y2 * z2 - x2 * z2) = 2 * (z1 * z2) * (y1 * y2 + x1 * x2) := by grind
 have eG : (z1 + z1) * z2 - x1 * y1 * z1 * (D + D) * (x2 * y2 * z2) = 2 * (z1 * z2) * (1 - D * x1 * x2 * y1 * y2) := by grind
 have eH : (z1 + z1) * z2 + x1 * y1 * z1 * (D + D) * (x2 * y2 * z2) = 2 * (z1 * z2) * (1 + D * x1 * x2 * y1 * y2) := by grind
 rw [eF, eI, eG, eH, ← hx, ← hy]
 have hz := mul_ne two_ne (mul_ne h1 k1)
 clear hx hy eF eI eG eH
 generalize 1 + D * x1 * x2 * y1 * y2 = A at *
 generalize 1 - D * x1 * x2 * y1 * y2 = B at *
 generalize 2 * (z1 * z2) = Z at *
 refine ⟨mul_ne (mul_ne hz pm) (mul_ne hz pp), ?_, ?_, ?_⟩
 ·clear hz pm pp h1 k1; grind
 ·clear hz pm pp h1 k1; grind
 ·clear hz pm pp h1 k1; grind
def qO : Q4 := ⟨0, 1, 1, 0⟩
theorem rep_O : Rep qO O := ⟨one_ne, by decide +kernel, by decide +kernel, by decide +kernel⟩
def qof (P : F × F) : Q4 := ⟨P.1, P.2, 1, P.1 * P.2⟩
theorem rep_of (P : F × F) : Rep (qof P) P := by
 unfold qof Rep
 simp only
 refine ⟨one_ne, ?_, ?_, ?_⟩ <;> grind
theorem rep_same {p q : Q4} {P Q : F × F} (h : Rep p P) (k : Rep q Q) : (p.x * q.z = q.x * p.z ∧ p.y * q.z = q.y * p.z) ↔ P = Q := by
 obtain ⟨h1, h2, h3, _⟩ := h
 obtain ⟨k1, k2, k3, _⟩ := k
 obtain ⟨x1, y1⟩ := P; obtain ⟨x2, y2⟩ := Q
 simp only at *
 rw [h2, h3, k2, k3]
 have hz := mul_ne h1 k1
 generalize p.z = z at *
 generalize q.z = u at *
 clear h2 h3 k2 k3
 constructor
 ·rintro ⟨e1, e2⟩
  refine Prod.ext (cancel hz ?_) (cancel hz ?_)
  ·show z * u * x1 = z * u * x2
   grind
  ·show z * u * y1 = z * u * y2
   grind
 ·intro e
  injection e with e1 e2
  subst e1; subst e2
  constructor <;> grind
def qmul (p : Q4) (n : Nat) : Nat → Q4
 | 0 => qO
 | j + 1 => let o := qadd (qmul p n j) (qmul p n j); if n / 2 ^ (252 - j) % 2 = 1 then qadd o p else o
theorem rep_mul {p : Q4} {P : F × F} (h : Rep p P) (hP : On P) (n : Nat) (hn : n < 2 ^ 253) : ∀ j, j ≤ 253 → Rep (qmul p n j) (mul (n / 2 ^ (253 - j)) P)
  | 0, _ => by
    rw [Nat.sub_zero, Nat.div_eq_of_lt hn]; exact rep_O
  | j + 1, hj => by
    have ih := rep_mul h hP n hn j (by omega)
    have hm := on_mul hP (n / 2 ^ (253 - j))
    have h2 := rep_add ih ih hm hm
    rw [← mul_two hP] at h2
    have e : n / 2 ^ (253 - j) = n / 2 ^ (252 - j) / 2 := by rw [Nat.div_div_eq_div_mul, ← Nat.pow_succ, show (252 - j).succ = 253 - j from by omega]
    rw [show 253 - (j + 1) = 252 - j from by omega]
    show Rep (if n / 2 ^ (252 - j) % 2 = 1 then qadd (qadd (qmul p n j) (qmul p n j)) p else qadd (qmul p n j) (qmul p n j)) _
    by_cases hb : n / 2 ^ (252 - j) % 2 = 1
    · rw [if_pos hb]
      have h3 := rep_add h2 h (on_mul hP _) hP
      rw [show n / 2 ^ (252 - j) = 2 * (n / 2 ^ (253 - j)) + 1 from by omega]
      exact h3
    · rw [if_neg hb, show n / 2 ^ (252 - j) = 2 * (n / 2 ^ (253 - j)) from by omega]
      exact h2
def L : Nat := 7237005577332262213973186563042994240857116359379907606001950938285454250989
def B : F × F := (of 15112221349535400772501151409588531511454012693041857206046113283949847762202, of 46316835694926478169428394003475163141307993866256225615783033603165251855960)
theorem on_B : On B := by decide +kernel
theorem base_order0 : (qmul (qof B) L 253).x = 0 ∧ (qmul (qof B) L 253).y = (qmul (qof B) L 253).z := by decide +kernel
theorem L_lt : L < 2 ^ 253 := by decide +kernel
theorem base_order : mul L B = O := by
 have h := rep_mul (rep_of B) on_B L L_lt 253 (Nat.le_refl _)
 rw [Nat.sub_self, Nat.pow_zero, Nat.div_one] at h
 refine ((rep_same h rep_O).1 ?_)
 obtain ⟨h1, h2⟩ := base_order0
 rw [h1, h2]
 unfold qO
 simp only
 constructor <;> grind
end Ed
end
end Go.Proofs.YtjllhimhiekchaaGreat

/- The reference's whole numbers (digits of base 2^15): trim, Num, digit, Less: what each hands back. Lengths up to 10^6. The reference's whole numbers: Add, Sub, Mul, Pow, Low: what each hands back. Lengths up to 10^6. -/
namespace Go.Proofs.YtjllhimhiekchaaGreat
section
open Go.RowKit
attribute [local irreducible] Y Ef WL WC WK WQ WM OpM
section
variable {w w' : World} {A : Option Addr} {n v : Nat} {xs : List Nat} {k : IntKind}
theorem Ns.ext (h : Ns k w A n xs) (E : Ext w w') : Ns k w' A n xs := h.below E
theorem Ns.of_row {base c : Nat} {e : TypeId} (h : Row w base e A n c (xs.map (iv k))) : Ns k w A n xs := ⟨by have := h.len; simpa using this, Row.at h⟩
theorem Ns.blk {g : Nat} {t : TypeId} (h : Blk w g t (nums k xs)) (hn : xs.length = n) : Ns k w (some ⟨g, 0, none⟩) n xs :=
 ⟨hn, At.blk (vs := xs.map (iv k)) h⟩
end
theorem i64_nat {a : Int} {n : Nat} (h : a = (n : Int)) (hn : n ≤ 9223372036854775807) : IntKind.i64.wrap a = (n : Int) := by
 subst h; exact i64_ok (by omega) (by omega)
end
section
open Go.RowKit
attribute [local irreducible] Y Ef WL WC WK WQ WM OpM
theorem wrap_u64' (n : Int) : IntKind.u64.wrap n = n % 18446744073709551616 := by simp [IntKind.wrap, IntKind.bits, IntKind.signed]
theorem u64_mod {a : Int} {n : Nat} (h : a = (n : Int)) : IntKind.u64.wrap a = ((n % 18446744073709551616 : Nat) : Int) := by
 subst h; rw [wrap_u64']; omega
end
end Go.Proofs.YtjllhimhiekchaaGreat

namespace Go.Proofs.YtjllhimhiekchaaGreat
open Go.RowKit
attribute [local irreducible] Y Ef WL WC WK WQ WM OpM
theorem u64_nat {a : Int} {n : Nat} (h : a = (n : Int)) (hn : n < 18446744073709551616) : IntKind.u64.wrap a = (n : Int) := by
 subst h; rw [wrap_u64']; omega
theorem eltU : Elt Tryz.prog 180 38 8 := Elt.of Tryz.underlying180 (z := .int .u64 0) (by kernel_rfl) rfl
end Go.Proofs.YtjllhimhiekchaaGreat
