/- The field's carry and least: what they hand back, by limbs. -/
import Derived.Test.YtgfafidlkldeaaaGreatFieldS
import Derived.Test.YtgfafidlkldeaaaGreatNt
import Derived.Test.YtgfafidlkldeaaaGreatVc7
import Derived.Test.YtgfafidlkldeaaaGreatBigC
import Derived.Test.YtgfafidlkldeaaaGreatAu
set_option linter.unusedVariables false
set_option linter.unusedSimpArgs false
set_option maxHeartbeats 4000000
set_option maxRecDepth 4000
namespace Go.Proofs.YtgfafidlkldeaaaGreat
section
namespace Fp
theorem Me : 0 < p := by unfold p; omega
theorem LI : 2 < p := by unfold p; omega
theorem N4 : Nt.ln p := Nt.LK
instance : NeZero p := ⟨by unfold p; omega⟩
abbrev F := Fin p
def of (x : Nat) : F := ⟨x % p, Nat.mod_lt _ Me⟩
theorem Kl (a : F) : of a.val = a := Fin.ext (Nat.mod_eq_of_lt a.isLt)
theorem sA (x : Nat) : (of x).val = x % p := rfl
theorem val_add (a b : F) : (a + b).val = (a.val + b.val) % p := Fin.val_add a b
theorem val_mul (a b : F) : (a * b).val = a.val * b.val % p := Fin.val_mul a b
theorem val_sub (a b : F) : (a - b).val = (a.val + p - b.val) % p := by
 have := b.isLt
 rw [Fin.sub_def]; show (p - b.val + a.val) % p = _
 congr 1; omega
theorem val_neg (a : F) : (-a).val = (p - a.val) % p := by
 rw [Fin.neg_def]
theorem val_zero : (0 : F).val = 0 := rfl
theorem val_one : (1 : F).val = 1 := rfl
theorem Cr (x y : Nat) : of (x * y) = of x * of y := Fin.ext (by rw [val_mul, sA, sA, sA, Nat.mul_mod])
theorem val_inj {a b : F} : a.val = b.val ↔ a = b := ⟨Fin.ext, fun h => by rw [h]⟩
theorem val_eq_zero {a : F} : a.val = 0 ↔ a = 0 := val_inj (b := 0)
theorem zero_or {a b : F} (h : a * b = 0) : a = 0 ∨ b = 0 := by
 have hv : a.val * b.val % p = 0 := by rw [← val_mul, h]; rfl
 rcases N4.dvd_mul (Nat.dvd_of_mod_eq_zero hv) with hd | hd
 ·left; exact val_eq_zero.1 (Nat.eq_zero_of_dvd_of_lt hd a.isLt)
 ·right; exact val_eq_zero.1 (Nat.eq_zero_of_dvd_of_lt hd b.isLt)
theorem cancel {a b c : F} (ha : a ≠ 0) (h : a * b = a * c) : b = c := by
 have : a * (b - c) = 0 := by grind
 rcases zero_or this with h | h
 ·exact absurd h ha
 ·grind
def pow (a : F) (e : Nat) : F := of (a.val ^ e)
theorem yv (a : F) (e : Nat) : (pow a e).val = a.val ^ e % p := rfl
theorem pow_zero (a : F) : pow a 0 = 1 := by unfold pow; rw [Nat.pow_zero]; rfl
theorem pow_succ (a : F) (e : Nat) : pow a (e + 1) = pow a e * a := by unfold pow; rw [Nat.pow_succ, Cr, Kl]
theorem pow_one (a : F) : pow a 1 = a := by rw [show (1 : Nat) = 0 + 1 from rfl, pow_succ, pow_zero]; grind
theorem pow_add (a : F) (m n : Nat) : pow a (m + n) = pow a m * pow a n := by
 unfold pow; rw [Nat.pow_add, Cr]
theorem pow_mul (a : F) (m n : Nat) : pow a (m * n) = pow (pow a m) n := by
 induction n with
 | zero => rw [Nat.mul_zero, pow_zero, pow_zero]
 | succ n ih => rw [Nat.mul_succ, pow_add, ih, pow_succ]
theorem zero_pow {n : Nat} (h : 0 < n) : pow 0 n = 0 := by
 obtain ⟨m, rfl⟩ : ∃ m, n = m + 1 := ⟨n - 1, by omega⟩
 rw [pow_succ]; grind
theorem ja (a : F) (n : Nat) : pow a (2 * n) = pow a n * pow a n := by rw [Nat.two_mul, pow_add]
theorem sa {a : F} (h : a ≠ 0) : pow a (p - 1) = 1 := by
 have := Nt.xJ N4 (a := a.val) (fun hd => h (val_eq_zero.1 (Nat.eq_zero_of_dvd_of_lt hd a.isLt)))
 exact Fin.ext this
def inv (a : F) : F := pow a (p - 2)
theorem nR {a : F} (h : a ≠ 0) : a * inv a = 1 := by
 have hf := sa h
 have hp := LI
 rw [show p - 1 = (p - 2) + 1 by omega, pow_succ] at hf
 unfold inv; grind
theorem kN : (1 : F) ≠ 0 := fun h => by have := congrArg Fin.val h; rw [val_zero, val_one] at this; cases this
theorem vE {a b : F} (h : a * b = 1) : b = inv a := by
 have ha : a ≠ 0 := fun hc => kN (by rw [← h, hc]; grind)
 exact cancel ha (by rw [h, nR ha])
def half : Nat := 28948022309329048855892746252171976963317496166410141009864396001978282409974
theorem Ji : p - 1 = 2 * half := rfl
def pW (a : F) : Prop := pow a half = 0 ∨ pow a half = 1
instance (a : F) : Decidable (pW a) := inferInstanceAs (Decidable (_ ∨ _))
theorem pow_eq_zero {a : F} {n : Nat} (h : pow a n = 0) : a = 0 := by
  induction n with
  | zero => rw [pow_zero] at h; exact absurd h kN
  | succ n ih =>
    rw [pow_succ] at h
    rcases zero_or h with h | h
    · exact ih h
    · exact h
theorem jC {a x : F} (h : x * x = a) : pW a := by
 by_cases hx : x = 0
 ·left
  subst hx; rw [← h, show (0 : F) * 0 = 0 by grind]
  exact zero_pow (by unfold half; omega)
 ·right
  rw [← h, show x * x = pow x 2 by rw [show (2 : Nat) = 2 * 1 from rfl, ja, pow_one], ← pow_mul, ← Ji]
  exact sa hx
def ki : Nat := 14474011154664524427946373126085988481658748083205070504932198000989141204987
theorem xn : half = 2 * ki := rfl
def e8 : Nat := 7237005577332262213973186563042994240829374041602535252466099000494570602494
theorem IK : 2 * e8 = ki + 1 := rfl
def im : F := of 19681161376707505956807079304988542015446066515923890162744021073123829784752
theorem wH : pow (of 2) ki = im := Fin.ext (by
 rw [yv, show (of 2).val = 2 from rfl, ← Nt.lC p 256 2 ki (by decide +kernel)]
 decide +kernel)
theorem Kc : im * im = -1 := by decide +kernel
def bI (a : F) : F := pow a e8
theorem DV (a : F) : bI a * bI a = a * pow a ki := by
 unfold bI
 rw [← ja, IK, pow_succ]; grind
theorem tS {a : F} (h : pW a) : bI a * bI a = a ∨ (bI a * im) * (bI a * im) = a := by
 have hg := DV a
 have hi := Kc
 rcases h with h | h
 ·left
  obtain rfl := pow_eq_zero h
  rw [hg]; grind
 ·have hq : pow a ki * pow a ki = 1 := by rw [← ja, ← xn, h]
  have : (pow a ki - 1) * (pow a ki + 1) = 0 := by grind
  rcases zero_or this with hz | hz
  ·left; grind
  ·right; grind
theorem DY {x : F} (h : x.val % 2 = 1) : (-x).val % 2 = 0 := by
 rw [val_neg]
 have hp : p % 2 = 1 := by decide +kernel
 rw [show (p - x.val) % p = p - x.val from Nat.mod_eq_of_lt (by omega)]
 omega
def root (a : F) : F := let x := if bI a * bI a = a then bI a else bI a * im; if x.val % 2 = 1 then -x else x
theorem EY {a : F} (h : pW a) : root a * root a = a := by
 have h2 := tS h
 unfold root
 by_cases hg : bI a * bI a = a
 ·simp only [if_pos hg]; split <;> grind
 ·simp only [if_neg hg]
  split <;> grind
theorem zk (a : F) : (root a).val % 2 = 0 := by
 have key : ∀ x : F, (if x.val % 2 = 1 then -x else x).val % 2 = 0 := fun x => by
  by_cases h : x.val % 2 = 1
  ·rw [if_pos h]; exact DY h
  ·rw [if_neg h]; omega
 exact key _
theorem zp {x y : F} (h : x * x = y * y) : x = y ∨ x = -y := by
 have : (x - y) * (x + y) = 0 := by grind
 rcases zero_or this with h | h
 ·left; grind
 ·right; grind
end Fp
end
section
section
namespace Ed
open Fp
def d : F := of 37095705934669439343138083508754565189542113879843219016388785533085940283555
theorem MK : pow d half = -1 := Fin.ext (by
 rw [yv, show d.val = 37095705934669439343138083508754565189542113879843219016388785533085940283555 from rfl, ← Nt.lC p 256 _ half (by decide +kernel)]
 decide +kernel)
theorem Bp : (2 : F) ≠ 0 := by decide +kernel
theorem J8 : ¬ pW d := fun h => by
 have h1 := MK
 rcases h with h | h
 ·rw [h] at h1; exact absurd h1 (by decide +kernel)
 ·rw [h] at h1; exact absurd h1 (by decide +kernel)
theorem Hz : im * im = -1 := by decide +kernel
def On (P : F × F) : Prop := P.2 * P.2 - P.1 * P.1 = 1 + d * P.1 * P.1 * P.2 * P.2
instance (P : F × F) : Decidable (On P) := inferInstanceAs (Decidable (_ = _))
def add (P Q : F × F) : F × F := ((P.1 * Q.2 + Q.1 * P.2) * inv (1 + d * P.1 * Q.1 * P.2 * Q.2), (P.2 * Q.2 + P.1 * Q.1) * inv (1 - d * P.1 * Q.1 * P.2 * Q.2))
def O : F × F := (0, 1)
theorem Bf {a b : F} (h : a * a = d * (b * b)) : b = 0 := by
 by_cases hb : b = 0
 ·exact hb
 ·exfalso
  apply J8
  have hi := nR hb
  refine jC (x := a * inv b) ?_
  have : a * inv b * (a * inv b) = (a * a) * (inv b * inv b) := by grind
  rw [this, h]
  have h2 : d * (b * b) * (inv b * inv b) = d * ((b * inv b) * (b * inv b)) := by grind
  rw [h2, hi]; grind
theorem LW (e : F) : (1 : F) + e * 0 * 0 * 0 * 0 = 1 := by
 have h : e * 0 * 0 * 0 * 0 = 0 := by grind
 rw [h]; decide +kernel
theorem LV : (0 : F) * 0 - 0 * 0 = 0 := by decide +kernel
theorem Mp {x y : F} (h : On (x, y)) : ¬ (x = 0 ∧ y = 0) := fun ⟨h1, h2⟩ => by
 subst h1; subst h2
 unfold On at h
 simp only at h
 rw [LW, LV] at h
 exact kN h.symm
theorem fO {a b : F} (ha : a ≠ 0) (hb : b ≠ 0) : a * b ≠ 0 := fun h => (zero_or h).elim ha hb
theorem yC {x1 y1 x2 y2 e : F} (h1 : On (x1, y1)) (h2 : On (x2, y2)) (he : e * e = 1) : d * x1 * x2 * y1 * y2 ≠ e := fun hc => by
 unfold On at h1 h2
 simp only at h1 h2
 have hi := Hz
 have hen : e ≠ 0 := fun h0 => kN (by rw [← he, h0]; grind)
 have hxy : x1 * y1 ≠ 0 := fun h0 => hen (by rw [← hc]; grind)
 -- (i x1 + e' y1)^2 = - d x1^2 y1^2 (i x2 + y2)^2 , both signs
 have a1 : (im * x1 + e * y1) * (im * x1 + e * y1) = d * ((x1 * y1 * (im * x2 + y2)) * (x1 * y1 * (im * x2 + y2))) := by grind
 have a2 : (im * x1 - e * y1) * (im * x1 - e * y1) = d * ((x1 * y1 * (im * x2 - y2)) * (x1 * y1 * (im * x2 - y2))) := by grind
 have him : im ≠ 0 := fun h0 => kN (by rw [h0] at hi; grind)
 have c1 := (zero_or (Bf a1)).resolve_left hxy
 have c2 := (zero_or (Bf a2)).resolve_left hxy
 have hy : 2 * y2 = 0 := by grind
 have Vl := (zero_or hy).resolve_left Bp
 have hx : im * x2 = 0 := by grind
 exact Mp (x := x2) (y := y2) (by unfold On; exact h2) ⟨(zero_or hx).resolve_left him, Vl⟩
theorem xo {x1 y1 x2 y2 : F} (h1 : On (x1, y1)) (h2 : On (x2, y2)) : 1 + d * x1 * x2 * y1 * y2 ≠ 0 := fun h =>
 yC h1 h2 (e := -1) (by decide +kernel) (by grind)
theorem vt {x1 y1 x2 y2 : F} (h1 : On (x1, y1)) (h2 : On (x2, y2)) : 1 - d * x1 * x2 * y1 * y2 ≠ 0 := fun h =>
 yC h1 h2 (e := 1) (by decide +kernel) (by grind)
theorem KM {x1 y1 x2 y2 x3 y3 : F} (E1 : On (x1, y1)) (E2 : On (x2, y2)) (E3 : On (x3, y3)) :
  ((x1*y2+x2*y1)*(1-d*x1*x2*y1*y2)*y3 + x3*(y1*y2+x1*x2)*(1+d*x1*x2*y1*y2)) * ((1-d*x2*x3*y2*y3)*(1+d*x2*x3*y2*y3) + d*x1*y1*(x2*y3+x3*y2)*(y2*y3+x2*x3))
  = (x1*(y2*y3+x2*x3)*(1+d*x2*x3*y2*y3) + (x2*y3+x3*y2)*(1-d*x2*x3*y2*y3)*y1) * ((1-d*x1*x2*y1*y2)*(1+d*x1*x2*y1*y2) + d*x3*y3*(x1*y2+x2*y1)*(y1*y2+x1*x2)) := by
 unfold On at E1 E2 E3
 simp only at E1 E2 E3
 generalize d = e at *
 grind
theorem KF {x1 y1 x2 y2 x3 y3 : F} (E1 : On (x1, y1)) (E2 : On (x2, y2)) (E3 : On (x3, y3)) :
  ((y1*y2+x1*x2)*(1+d*x1*x2*y1*y2)*y3 + x3*(x1*y2+x2*y1)*(1-d*x1*x2*y1*y2)) * ((1-d*x2*x3*y2*y3)*(1+d*x2*x3*y2*y3) - d*x1*y1*(x2*y3+x3*y2)*(y2*y3+x2*x3))
  = (y1*(y2*y3+x2*x3)*(1+d*x2*x3*y2*y3) + (x2*y3+x3*y2)*(1-d*x2*x3*y2*y3)*x1) * ((1-d*x1*x2*y1*y2)*(1+d*x1*x2*y1*y2) - d*x3*y3*(x1*y2+x2*y1)*(y1*y2+x1*x2)) := by
 unfold On at E1 E2 E3
 simp only at E1 E2 E3
 generalize d = e at *
 grind
theorem LS {x1 y1 x2 y2 : F} (E1 : On (x1, y1)) (E2 : On (x2, y2)) :
  ((y1*y2+x1*x2)*(1+d*x1*x2*y1*y2))*((y1*y2+x1*x2)*(1+d*x1*x2*y1*y2)) - ((x1*y2+x2*y1)*(1-d*x1*x2*y1*y2))*((x1*y2+x2*y1)*(1-d*x1*x2*y1*y2))
  = ((1-d*x1*x2*y1*y2)*(1+d*x1*x2*y1*y2))*((1-d*x1*x2*y1*y2)*(1+d*x1*x2*y1*y2)) + d * ((y1*y2+x1*x2)*(y1*y2+x1*x2)) * ((x1*y2+x2*y1)*(x1*y2+x2*y1)) := by
 unfold On at E1 E2
 simp only at E1 E2
 generalize d = e at *
 grind
theorem sh {a b c : F} (hb : b ≠ 0) (h : a = c * b) : c = a * inv b := by
 have := nR hb
 grind
theorem div_mul {a b : F} (hb : b ≠ 0) : a * inv b * b = a := by
 have := nR hb
 grind
theorem pC {P Q : F × F} (h1 : On P) (h2 : On Q) : 1 + d * P.1 * Q.1 * P.2 * Q.2 ≠ 0 := xo (x1 := P.1) (y1 := P.2) (x2 := Q.1) (y2 := Q.2) h1 h2
theorem oM {P Q : F × F} (h1 : On P) (h2 : On Q) : 1 - d * P.1 * Q.1 * P.2 * Q.2 ≠ 0 := vt (x1 := P.1) (y1 := P.2) (x2 := Q.1) (y2 := Q.2) h1 h2
theorem qA {P Q : F × F} (h1 : On P) (h2 : On Q) : (add P Q).1 * (1 + d * P.1 * Q.1 * P.2 * Q.2) = P.1 * Q.2 + Q.1 * P.2 := div_mul (xo h1 h2)
theorem qZ {P Q : F × F} (h1 : On P) (h2 : On Q) : (add P Q).2 * (1 - d * P.1 * Q.1 * P.2 * Q.2) = P.2 * Q.2 + P.1 * Q.1 := div_mul (vt h1 h2)
theorem sR {P Q : F × F} (h1 : On P) (h2 : On Q) : On (add P Q) := by
 obtain ⟨x1, y1⟩ := P
 obtain ⟨x2, y2⟩ := Q
 have hx := qA h1 h2
 have hy := qZ h1 h2
 have hp := xo h1 h2
 have hm := vt h1 h2
 have ho := LS h1 h2
 generalize add (x1, y1) (x2, y2) = R at *
 obtain ⟨x, y⟩ := R
 simp only at hx hy
 unfold On
 simp only
 have hpm := fO (fO hp hm) (fO hp hm)
 refine cancel hpm ?_
 generalize d = e at *
 generalize Vl : 1 + e * x1 * x2 * y1 * y2 = s at *
 generalize Vm : 1 - e * x1 * x2 * y1 * y2 = t at *
 rw [← hx, ← hy] at ho
 clear hx hy hp hm Vl Vm hpm h1 h2
 grind
theorem Nv : On O := by decide +kernel
theorem inv_one : inv (1 : F) = 1 := (vE (a := 1) (b := 1) (by decide +kernel)).symm
theorem LQ (P : F × F) : add P O = P := by
 obtain ⟨x, y⟩ := P
 unfold add O
 simp only
 have e1 : x * 1 + 0 * y = x := by grind
 have e2 : y * 1 + x * 0 = y := by grind
 have e3 : d * x * 0 * y * 1 = 0 := by grind
 have e4 : (1 : F) + 0 = 1 := by decide +kernel
 have e5 : (1 : F) - 0 = 1 := by decide +kernel
 rw [e1, e2, e3, e4, e5, inv_one]
 clear e1 e2 e3 e4 e5
 have e6 : x * 1 = x := by grind
 have e7 : y * 1 = y := by grind
 rw [e6, e7]
theorem xL {A B n m u r : F} (hA : A ≠ 0) (hB : B ≠ 0) (hu : u * A = n) (hr : r * B = m) (key : n * B = m * A) : u = r := by
 refine cancel (fO hA hB) ?_
 rw [← hu, ← hr] at key
 clear hu hr hA hB
 grind
theorem add_assoc {P Q R : F × F} (h1 : On P) (h2 : On Q) (h3 : On R) : add (add P Q) R = add P (add Q R) := by
 have Vl := sR h1 h2
 have Vm := sR h2 h3
 have Vn := qA h1 h2
 have Vo := qZ h1 h2
 have Vp := qA h2 h3
 have Vq := qZ h2 h3
 have xl := qA Vl h3
 have yl := qZ Vl h3
 have xr := qA h1 Vm
 have yr := qZ h1 Vm
 have pl := pC Vl h3
 have ml := oM Vl h3
 have pr := pC h1 Vm
 have mr := oM h1 Vm
 have Vr := pC h1 h2
 have Vs := oM h1 h2
 have Vt := pC h2 h3
 have Vu := oM h2 h3
 have ax := KM h1 h2 h3
 have ay := KF h1 h2 h3
 generalize add (add P Q) R = L at *
 generalize add P (add Q R) = M at *
 generalize add P Q = S at *
 generalize add Q R = T at *
 obtain ⟨x1, y1⟩ := P; obtain ⟨x2, y2⟩ := Q; obtain ⟨x3, y3⟩ := R; obtain ⟨a, b⟩ := S; obtain ⟨f, g⟩ := T; obtain ⟨u, v⟩ := L; obtain ⟨r, s⟩ := M
 simp only at *
 clear h1 h2 h3 Vl Vm
 have hne := fO (fO Vr Vs) (fO Vt Vu)
 generalize d = e at *
 refine Prod.ext ?_ ?_
 ·show u = r
  refine xL pl pr xl xr (cancel hne ?_)
  rw [← Vn, ← Vo, ← Vp, ← Vq] at ax
  clear xl yl xr yr pl ml pr mr ay Vn Vo Vp Vq hne Vr Vs Vt Vu
  generalize 1 + e * x1 * x2 * y1 * y2 = A at *
  generalize 1 - e * x1 * x2 * y1 * y2 = B at *
  generalize 1 + e * x2 * x3 * y2 * y3 = C at *
  generalize 1 - e * x2 * x3 * y2 * y3 = D at *
  grind
 ·show v = s
  refine xL ml mr yl yr (cancel hne ?_)
  rw [← Vn, ← Vo, ← Vp, ← Vq] at ay
  clear xl yl xr yr pl ml pr mr ax Vn Vo Vp Vq hne Vr Vs Vt Vu
  generalize 1 + e * x1 * x2 * y1 * y2 = A at *
  generalize 1 - e * x1 * x2 * y1 * y2 = B at *
  generalize 1 + e * x2 * x3 * y2 * y3 = C at *
  generalize 1 - e * x2 * x3 * y2 * y3 = D at *
  grind
end Ed
end
section
namespace Ed
open Fp
def mul : Nat → F × F → F × F
 | 0, _ => O
 | n + 1, P => add (mul n P) P
theorem rP {P : F × F} (h : On P) : ∀ n, On (mul n P)
 | 0 => Nv
 | n + 1 => sR (rP h n) h
theorem mul_add {P : F × F} (h : On P) (m : Nat) : ∀ n, mul (m + n) P = add (mul m P) (mul n P)
  | 0 => (LQ _).symm
  | n + 1 => by
    show add (mul (m + n) P) P = add (mul m P) (add (mul n P) P)
    rw [mul_add h m n, add_assoc (rP h m) (rP h n) h]
theorem mul_two {P : F × F} (h : On P) (n : Nat) : mul (2 * n) P = add (mul n P) (mul n P) := by rw [Nat.two_mul, mul_add h]
/-! Points by quotients. -/
structure Q4 where
 (x y z t : F)
def oA (q : Q4) (P : F × F) : Prop := q.z ≠ 0 ∧ q.x = P.1 * q.z ∧ q.y = P.2 * q.z ∧ q.t * q.z = q.x * q.y
def Ki (p q : Q4) : Q4 :=
 let a := (p.y - p.x) * (q.y - q.x)
 let b := (p.y + p.x) * (q.y + q.x)
 let c := p.t * (d + d) * q.t
 let e := (p.z + p.z) * q.z
 ⟨(b - a) * (e - c), (e + c) * (b + a), (e - c) * (e + c), (b - a) * (b + a)⟩
theorem IC {q : Q4} {P : F × F} (h : oA q P) : q.t = P.1 * P.2 * q.z := by
 obtain ⟨h1, h2, h3, h4⟩ := h
 refine cancel h1 ?_
 rw [h2, h3] at h4
 generalize q.t = t at *
 generalize q.z = z at *
 clear h2 h3 h1
 grind
theorem GA {p q : Q4} {P Q : F × F} (h : oA p P) (k : oA q Q) (hP : On P) (hQ : On Q) : oA (Ki p q) (add P Q) := by
 have ht := IC h
 have kt := IC k
 have hx := qA hP hQ
 have hy := qZ hP hQ
 have pp := pC hP hQ
 have pm := oM hP hQ
 obtain ⟨h1, h2, h3, _⟩ := h
 obtain ⟨k1, k2, k3, _⟩ := k
 generalize add P Q = R at *
 obtain ⟨x1, y1⟩ := P; obtain ⟨x2, y2⟩ := Q; obtain ⟨x, y⟩ := R
 obtain ⟨a, b, z1, t1⟩ := p; obtain ⟨e, f, z2, t2⟩ := q
 simp only at *
 clear hP hQ
 subst h2 h3 k2 k3 ht kt
 unfold Ki oA
 simp only
 generalize d = D at *
 have eF : (y1 * z1 + x1 * z1) * (y2 * z2 + x2 * z2) - (y1 * z1 - x1 * z1) * (y2 * z2 - x2 * z2) = 2 * (z1 * z2) * (x1 * y2 + x2 * y1) := by grind
 have eI : (y1 * z1 + x1 * z1) * (y2 * z2 + x2 * z2) + (y1 * z1 - x1 * z1) * (y2 * z2 - x2 * z2) = 2 * (z1 * z2) * (y1 * y2 + x1 * x2) := by grind
 have eG : (z1 + z1) * z2 - x1 * y1 * z1 * (D + D) * (x2 * y2 * z2) = 2 * (z1 * z2) * (1 - D * x1 * x2 * y1 * y2) := by grind
 have eH : (z1 + z1) * z2 + x1 * y1 * z1 * (D + D) * (x2 * y2 * z2) = 2 * (z1 * z2) * (1 + D * x1 * x2 * y1 * y2) := by grind
 rw [eF, eI, eG, eH, ← hx, ← hy]
 have hz := fO Bp (fO h1 k1)
 clear hx hy eF eI eG eH
 generalize 1 + D * x1 * x2 * y1 * y2 = A at *
 generalize 1 - D * x1 * x2 * y1 * y2 = B at *
 generalize 2 * (z1 * z2) = Z at *
 refine ⟨fO (fO hz pm) (fO hz pp), ?_, ?_, ?_⟩
 ·clear hz pm pp h1 k1; grind
 ·clear hz pm pp h1 k1; grind
 ·clear hz pm pp h1 k1; grind
def M9 (P : F × F) : Q4 := ⟨P.1, P.2, 1, P.1 * P.2⟩
theorem IU (P : F × F) : oA (M9 P) P := by
 unfold M9 oA
 simp only
 refine ⟨kN, ?_, ?_, ?_⟩ <;> grind
def L : Nat := 7237005577332262213973186563042994240857116359379907606001950938285454250989
def B : F × F := (of 15112221349535400772501151409588531511454012693041857206046113283949847762202, of 46316835694926478169428394003475163141307993866256225615783033603165251855960)
theorem JN : On B := by decide +kernel
theorem CU : L < 2 ^ 253 := by decide +kernel
end Ed
end
end
section
open Go.RowKit Tryz
attribute [local irreducible] Y Ef WL WC WK WQ WM cx
def fe (f : Nat → Nat) : Array Value := aK .u64 (Fp.fn 5 f)
theorem ai (f : Nat → Nat) : (fe f).size = 5 := by rw [fe, bc, Fp.dF]
theorem dj (f : Nat → Nat) {i j : Nat} (hi : i = j) (h : j < 5) : (fe f)[i]? = some (.int .u64 (f j : Nat)) := by
 subst hi; rw [fe, de _ _ _ (by rw [Fp.dF]; exact h), Fp.ow f h]
theorem gE (f : Nat → Nat) (i x : Nat) : (fe f).setIfInBounds i (.int .u64 (x : Int)) = fe (fun j => if j = i then x else f j) := by
 rw [fe, eS, Fp.vZ, fe]
theorem bh (f : Nat → Nat) : (fe f).all (·.oneCell') = true := cF _ _
theorem dr {f g : Nat → Nat} (h : ∀ j, j < 5 → f j = g j) : fe f = fe g := by unfold fe; rw [Fp.lX h]
theorem qK (x : Nat) (_ : x < 18446744073709551616) : (x : Int) / 2 ^ (min (51 : Int).toNat IntKind.u64.bits) = ((x / 2251799813685248 : Nat) : Int) := by
 rw [show (2 : Int) ^ (min (51 : Int).toNat IntKind.u64.bits) = ((2251799813685248 : Nat) : Int) from rfl]
 exact (Int.natCast_ediv _ _).symm
theorem jo (x : Nat) (hx : x < 18446744073709551616) : bits .and .u64 (x : Int) 2251799813685247 = ((x % 2251799813685248 : Nat) : Int) := by
 have h := (cf (p := x) (q := 2251799813685247) hx Om).1
 rw [show ((2251799813685247 : Int)) = ((2251799813685247 : Nat) : Int) from rfl, h, show (2251799813685247 : Nat) = 2 ^ 51 - 1 from rfl, Nat.and_two_pow_sub_one_eq_mod]
theorem iC (f : Nat → Nat) (w : World) (hf : ∀ j, j < 5 → f j < 18446744073709551616) :
  Ct 202 #[.agg (fe f)] w fun e w' => e = .returned (.agg (fe (Fp.carry f))) ∧ Ext w w' := by
 refine aI (s := 5) 46 func202 rfl rfl rfl underlying134 rfl Kr rfl ?_
 intro _ hret
 refine aU ?_
 intro w1 g1 (B1 : ao _ _ _ (fe f)) VD ex
 have E1 := ex
 refine aU ?_
 intro w2 g2 (B2 : ao _ _ _ (fe (fun _ => 0))) Vq ex
 have E2 := E1.ext ex; have Vo := B1.ext ex
 refine au 4 ?_
 refine ak (aJ rfl (cells := fe (fun _ => 0)) Kr) ?_
 refine aU ?_
 intro w3 g3 (B3 : ao _ _ _ (fe (fun _ => 0))) Vr ex
 have E3 := E2.ext ex; have Vs := Vo.ext ex; have Vl : w.heap.size ≤ g3 := Nat.le_trans E2.size Vr; have Vt := B2.ext ex
 refine af (ag rfl rfl Kr B3 rfl (bh _)) rfl ?_
 rintro _ w4 ⟨rfl, B4, cg⟩
 have E4 := E3.aw cg Vl; have VE := Vo.lt; have VF := B2.lt; have Vu := Vs.aw cg Om; have Vv := Vt.aw cg Om; replace B4 : ao w4 g3 132 (fe (fun _ => 0)) := B4
 refine aU ?_
 refine aF (fun n' L wr => ∃ i : Nat, L = [(1, .pointer (some ⟨g1, 0, none⟩)), (2, .pointer (some ⟨g2, 0, none⟩)), (3, .pointer (some ⟨g3, 0, none⟩)), (12, .agg (fe f)), (13, .int .i64 (i : Int))] ∧ n' = 5 - i ∧ (i ≤ 5 ∧ Ext w wr ∧ ao wr g1 134 (fe f) ∧ ao wr g2 134 (fe (fun _ => 0)) ∧ ao wr g3 132 (fe (fun j => if j < i then f j / 2251799813685248 else 0)))) _ _ ⟨0, rfl, rfl, by omega, E4, Vu, Vv, B4⟩ Ls ?_
 rintro _ n' L wr ⟨i, rfl, rfl, _, F, C1, C2, C3⟩ Vw
 refine aU ?_
 refine al rfl (fun Vx => ?_) (fun Vx => ?_)
 ·refine au 7 ?_
  refine ak (mn rfl rfl Tn.u Tn.u rfl Kr rfl Om (dj f rfl Om)) ?_
  refine au 7 ?_
  refine ak (bY rfl rfl Om (qK _ (hf i Om))) ?_
  refine au 1 ?_
  refine af (az rfl rfl rfl Kr C3 (by rw [ai]; omega)) rfl ?_
  rintro _ _ ⟨rfl, B5, cg⟩
  rw [Nat.zero_add, gE] at B5; have F5 := F.aw cg Vl; have D1 := C1.aw cg Om; have D2 := C2.aw cg Om
  refine au 7 ?_
  refine ae ?_
  refine Vw _ _ ⟨i + 1, rfl, rfl, by omega, F5, D1, D2, B5.congr (dr fun j hj => by split <;> split <;> (try split) <;> (first | omega | rfl | (exfalso; omega) | (subst_vars; rfl)))⟩ Om Ls
 ·refine aU ?_
  intro w6 g6 (B6 : ao _ _ _ (fe (fun _ => 0))) Vy ex
  have E6 := F.ext ex; have D1 := C1.ext ex; have D2 := C2.ext ex; have D3 := C3.ext ex; have Vm : w.heap.size ≤ g6 := Nat.le_trans F.size Vy; have VG := C3.lt; have Vz := C2.lt
  refine aU ?_
  refine aF (fun n' L wq => ∃ k : Nat, L = [(2, .pointer (some ⟨g2, 0, none⟩)), (3, .pointer (some ⟨g3, 0, none⟩)), (6, .pointer (some ⟨g6, 0, none⟩)), (23, .agg (fe f)), (24, .int .i64 (k : Int))] ∧ n' = 5 - k ∧ (k ≤ 5 ∧ Ext w wq ∧ ao wq g2 134 (fe (fun _ => 0)) ∧ ao wq g3 132 (fe (fun j => if j < i then f j / 2251799813685248 else 0)) ∧ ao wq g6 134 (fe (fun j => if j < k then Fp.carry f j else 0)))) _ _ ⟨0, rfl, rfl, by omega, E6, D2, D3, B6⟩ Ls ?_
  rintro _ n' L wq ⟨k, rfl, rfl, _, G, K2, K3, K6⟩ Vp
  refine aU ?_
  refine al rfl (fun VA => ?_) (fun VA => ?_)
  ·refine au 7 ?_
   refine ak (mn rfl rfl Tn.u Tn.u rfl Kr rfl Om (dj f rfl Om)) ?_
   refine au 7 ?_
   refine ak (aN rfl rfl (bk (n := k + 4) Om Om)) ?_
   refine ak (cy rfl rfl Om (show (((k + 4 : Nat) : Int).tmod 5 = (((k + 4) % 5 : Nat) : Int)) from rfl)) ?_
   refine au 1 ?_
   refine ak (ah rfl Tn.u rfl (K3.get (dj _ (by rw [Nat.zero_add]) Om))) ?_
   refine au 2 ?_
   obtain ⟨c, hc⟩ : ∃ c, c = (if (k + 4) % 5 < i then f ((k + 4) % 5) / 2251799813685248 else 0) := ⟨_, rfl⟩
   rw [← hc]
   have hcl : c < 8192 := by rw [hc]; have := hf ((k + 4) % 5) Om; split <;> omega
   have hkl := hf k Om
   refine aU ?_
   refine al rfl (fun VB => ?_) (fun VB => ?_)
   ·refine au 2 ?_
    refine ak (cz rfl rfl (aE (n := c * 19) Om Om)) ?_
    refine au 6 ?_
    refine ak (cD rfl rfl (jo _ (hf k Om))) ?_
    refine au 1 ?_
    refine ak (aN rfl rfl (aE (n := f k % 2251799813685248 + c * 19) Om Om)) ?_
    refine au 2 ?_
    refine af (az rfl rfl rfl Kr K6 (by rw [ai]; omega)) rfl ?_
    rintro _ w7 ⟨rfl, B7, cg⟩
    rw [Nat.zero_add, gE] at B7; have G7 := G.aw cg Vm; have L2 := K2.aw cg Om; have L3 := K3.aw cg Om
    refine au 7 ?_
    refine ae ?_
    refine Vp _ _ ⟨k + 1, rfl, rfl, by omega, G7, L2, L3, B7.congr (dr fun j hj => by
     have VC : k = 0 := by omega
     subst VC
     by_cases Vn : j = 0
     ·subst Vn; rw [if_pos rfl, if_pos Om, hc, if_pos Om]; rfl
     ·rw [if_neg Vn, if_neg Om, if_neg Om])⟩ Om Ls
   ·refine au 5 ?_
    refine ak (cD rfl rfl (jo _ (hf k Om))) ?_
    refine au 1 ?_
    refine ak (aN rfl rfl (aE (n := f k % 2251799813685248 + c) Om Om)) ?_
    refine au 2 ?_
    refine af (az rfl rfl rfl Kr K6 (by rw [ai]; omega)) rfl ?_
    rintro _ w7 ⟨rfl, B7, cg⟩
    rw [Nat.zero_add, gE] at B7; have G7 := G.aw cg Vm; have L2 := K2.aw cg Om; have L3 := K3.aw cg Om
    refine au 7 ?_
    refine ae ?_
    refine Vp _ _ ⟨k + 1, rfl, rfl, by omega, G7, L2, L3, B7.congr (dr fun j hj => by
     by_cases Vn : j = k
     ·subst Vn; rw [if_pos rfl, if_pos Om, hc, if_pos Om, Fp.carry, if_neg Om, show (j + 4) % 5 = j - 1 by omega]
     ·rw [if_neg Vn]; by_cases h2 : j < k
      ·rw [if_pos h2, if_pos Om]
      ·rw [if_neg h2, if_neg Om])⟩ Om Ls
  ·refine au 8 ?_
   refine af (ag rfl rfl (by rw [ai]; kernel_rfl) K2 (by rw [ai, ai]) (bh _)) rfl ?_
   rintro _ _ ⟨rfl, B8, cg⟩
   have G8 := G.aw cg (Nat.le_trans E1.size Vq)
   refine aU ?_
   refine hret rfl B8 (ai _) ?_
   exact ⟨by rw [dr (g := Fp.carry f) fun j hj => by rw [if_pos Om]], G8⟩
theorem jM (f : Nat → Nat) (w : World) (hf : Fp.small f) :
  Ct 209 #[.agg (fe f)] w fun e w' => e = .returned (.agg (fe (Fp.eE (Fp.val f % Fp.p)))) ∧ Ext w w' := by
 obtain ⟨h, hh⟩ : ∃ h, h = Fp.carry (Fp.carry f) := ⟨_, rfl⟩
 have hs := Fp.fM (f := f) (fun j hj => by have := hf j hj; omega)
 have hb : ∀ j, j < 5 → h j < 2251799813685248 + 19 := fun j hj => by rw [hh]; exact Fp.rp hs j hj
 have Vn : ∀ j, j < 5 → h j < 4503599627370496 := fun j hj => by have := hb j hj; omega
 have hend : ∀ j, j < 5 → (h j + Fp.rc h (Fp.qc h 5) j) % 2251799813685248 = Fp.eE (Fp.val f % Fp.p) j := fun j hj => Fp.Bw hf hh j hj
 refine aI (s := 5) 64 func209 rfl rfl rfl underlying134 rfl Kr rfl ?_
 intro _ hret
 refine aU ?_
 intro w1 g1 (B1 : ao _ _ _ (fe f)) Vl ex
 have E1 := ex; have VD := B1.lt
 refine aU ?_
 intro w2 g2 (B2 : ao _ _ _ (fe (fun _ => 0))) Vq ex
 have E2 := E1.ext ex; have Vr := B1.ext ex; have Vo : w.heap.size ≤ g2 := Nat.le_trans E1.size Vq
 refine aU ?_
 refine aL func202 rfl (iC f _ (fun j hj => by have := hf j hj; omega)) ?_
 rintro e _ ⟨rfl, ex⟩
 refine aU ?_
 have E3 := E2.ext ex; have C1 := Vr.ext ex; have C2 := B2.ext ex
 refine aL func202 rfl (iC _ _ (fun j hj => by have := hs j hj; omega)) ?_
 rintro e _ ⟨rfl, ex⟩
 refine au 1 ?_
 rw [← hh]; have E4 := E3.ext ex; have D1 := C1.ext ex; have D2 := C2.ext ex
 refine af (ag rfl rfl (by rw [ai]; kernel_rfl) D1 (by rw [ai, ai]) (bh _)) rfl ?_
 rintro _ w5 ⟨rfl, B5, cg⟩
 have E5 := E4.aw cg Vl; have D5 := D2.aw cg Om
 refine au 5 ?_
 refine ak (bG rfl rfl Tn.u Kr (j := 0) rfl Om) ?_
 refine ak (ah rfl Tn.u rfl (B5.get (dj h (j := 0) rfl Om))) ?_
 refine ak (aN rfl rfl (aE (n := h 0 + 19) Om (by have := hb 0 Om; omega))) ?_
 refine ak (bY rfl rfl Om (qK _ (by have := hb 0 Om; omega))) ?_
 refine aU ?_
 refine aF (fun n' L wr => ∃ i : Nat, L = [(1, .pointer (some ⟨g1, 0, none⟩)), (2, .pointer (some ⟨g2, 0, none⟩)), (3, .int .u64 ((Fp.qc h i : Nat) : Int)), (4, .int .i64 (i : Int))] ∧ n' = 5 - i ∧ (i ≤ 5 ∧ wr = w5)) _ _ ⟨1, rfl, rfl, by omega, rfl⟩ Ls ?_
 rintro _ n' L wr ⟨i, rfl, rfl, _, hw⟩ Vs
 refine aU ?_
 refine al rfl (fun Vt => ?_) (fun Vt => ?_)
 ·have hq := Fp.Ik Vn i Om
  have hbi := hb i Om
  refine au 8 ?_
  refine ak (ah rfl Tn.u rfl ((hw ▸ B5 : ao wr g1 134 (fe h)).get (dj h (by rw [Nat.zero_add]) Om))) ?_
  refine au 1 ?_
  refine ak (aN rfl rfl (aE (n := h i + Fp.qc h i) Om Om)) ?_
  refine ak (bY rfl rfl Om (qK _ Om)) ?_
  refine au 9 ?_
  refine ae ?_
  refine Vs _ _ ⟨i + 1, rfl, rfl, by omega, hw⟩ Om Ls
 ·refine au 6 ?_
  obtain rfl : i = 5 := by omega
  subst hw
  obtain ⟨q, hq⟩ : ∃ q, q = Fp.qc h 5 := ⟨_, rfl⟩
  have Vm : q ≤ 19 := by rw [hq]; exact Fp.Ik Vn 5 Om
  rw [← hq] at hend ⊢
  have VE := hb 0 Om
  refine au 2 ?_
  refine ak (bG rfl rfl Tn.u Kr (j := 0) rfl Om) ?_
  refine ak (ah rfl Tn.u rfl (B5.get (dj h (j := 0) rfl Om))) ?_
  refine au 1 ?_
  refine ak (cz rfl rfl (aE (n := 19 * q) Om Om)) ?_
  refine ak (aN rfl rfl (aE (n := h 0 + 19 * q) Om Om)) ?_
  refine au 1 ?_
  refine ak (bG rfl rfl Tn.u Kr (j := 0) rfl Om) ?_
  refine af (az rfl rfl rfl Kr B5 (by rw [ai]; omega)) rfl ?_
  rintro _ w7 ⟨rfl, B7, cg⟩
  have E7 := E5.aw cg Vl; have D7 := D5.aw cg Om; replace B7 : ao w7 g1 134 (fe (Fp.st h q 0)) := (B7.congr (gE h 0 _)).congr (dr fun j _ => Fp.Em h q j)
  refine aU ?_
  refine aF (fun n' L wq => ∃ k : Nat, L = [(1, .pointer (some ⟨g1, 0, none⟩)), (2, .pointer (some ⟨g2, 0, none⟩)), (33, .int .i64 (k : Int))] ∧ n' = 4 - k ∧ (k ≤ 4 ∧ Ext w wq ∧ ao wq g1 134 (fe (Fp.st h q k)) ∧ ao wq g2 134 (fe (fun _ => 0)))) _ _ ⟨0, rfl, rfl, by omega, E7, B7, D7⟩ Ls ?_
  rintro _ n' L wq ⟨k, rfl, rfl, _, F, K1, K2⟩ Vu
  refine aU ?_
  refine al rfl (fun Vv => ?_) (fun Vv => ?_)
  ·refine aU ?_
   have hrc := Fp.Iq Vm Vn k Om
   have hbk := hb k Om; have Vw := hb (k + 1) Om
   refine aA Kr 14 rfl ?_; intro Vx ex Vy
   have F6 := F.ext ex; have L1 := K1.ext ex; have L2 := K2.ext ex
   refine zm [0, 1, 2] ?_
   refine cU 3 rfl (fun _ => bG rfl rfl Tn.u Kr (j := k + 1) Om Om) ?_
   refine my 4 rfl (ah rfl Tn.u rfl (L1.get (v := .int .u64 ((h (k + 1) : Nat) : Int)) (by rw [Nat.zero_add, dj _ rfl Om, Fp.FT]))) ?_
   refine zm [5, 6, 7] ?_
   refine my 8 rfl (ah rfl Tn.u rfl (L1.get (v := .int .u64 ((h k + Fp.rc h q k : Nat) : Int)) (by rw [Nat.zero_add, dj _ rfl Om, Fp.Cu]))) ?_
   refine cU 9 rfl (fun _ => bY rfl rfl Om (qK _ Om)) ?_
   refine cU 10 rfl (fun _ => aN rfl rfl (aE (n := h (k + 1) + (h k + Fp.rc h q k) / 2251799813685248) Om Om)) ?_
   refine zm [11] ?_
   refine cU 12 rfl (fun _ => bG rfl rfl Tn.u Kr (j := k + 1) Om Om) ?_
   refine aM 13 Kr ?_; refine aO rfl (az rfl rfl rfl Kr L1 (by rw [ai]; omega)) rfl ?_
   rintro _ _ ⟨rfl, B8, cg⟩
   refine ⟨.inl rfl, ?_⟩
   rw [Nat.zero_add, gE] at B8; have F8 := F6.aw cg Vl; have M2 := L2.aw cg Om
   refine au 7 ?_
   refine ak (ah rfl Tn.u rfl (B8.get (v := .int .u64 ((h k + Fp.rc h q k : Nat) : Int)) (by rw [Nat.zero_add, dj _ rfl Om, if_neg Om, Fp.Cu]))) ?_
   refine ak (cD rfl rfl (jo _ Om)) ?_
   refine au 2 ?_
   refine af (az rfl rfl rfl Kr B8 (by rw [ai]; omega)) rfl ?_
   rintro _ _ ⟨rfl, B9, cg⟩
   rw [Nat.zero_add, gE] at B9; have F9 := F8.aw cg Vl; have M3 := M2.aw cg Om
   refine au 7 ?_
   refine ae ?_
   refine Vu _ _ ⟨k + 1, rfl, rfl, by omega, F9, B9.congr (dr fun j _ => Fp.GS h q k j), M3⟩ Om Ls
  ·obtain rfl : k = 4 := by omega
   have hrc := Fp.Iq Vm Vn 4 Om
   have VF := hb 4 Om
   refine au 8 ?_
   refine ak (bG rfl rfl Tn.u Kr (j := 4) rfl Om) ?_
   refine ak (ah rfl Tn.u rfl (K1.get (v := .int .u64 ((h 4 + Fp.rc h q 4 : Nat) : Int)) (by rw [Nat.zero_add, dj _ rfl Om, Fp.Cu]))) ?_
   refine ak (cD rfl rfl (jo _ Om)) ?_
   refine au 1 ?_
   refine ak (bG rfl rfl Tn.u Kr (j := 4) rfl Om) ?_
   refine af (az rfl rfl rfl Kr K1 (by rw [ai]; omega)) rfl ?_
   rintro _ Vz ⟨rfl, Vp, cg⟩
   have VA := F.aw cg Vl; have M4 := K2.aw cg Om; replace Vp : ao Vz g1 134 (fe (Fp.eE (Fp.val f % Fp.p))) := (Vp.congr (gE _ 4 _)).congr (dr fun j hj => (Fp.Jj h q j hj).trans (hend j hj))
   refine au 5 ?_
   refine af (ag rfl rfl (by rw [ai]; kernel_rfl) M4 (by rw [ai, ai]) (bh _)) rfl ?_
   rintro _ _ ⟨rfl, VB, cg⟩
   have VC := VA.aw cg Vo
   refine aU ?_
   refine hret rfl VB (ai _) ?_
   exact ⟨rfl, VC⟩
end
end Go.Proofs.YtgfafidlkldeaaaGreat
