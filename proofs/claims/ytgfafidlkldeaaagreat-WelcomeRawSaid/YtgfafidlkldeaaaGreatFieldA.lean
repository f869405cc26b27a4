/- The field's carry and least: what they hand back, by limbs. -/
import Derived.Test.YtgfafidlkldeaaaGreatFieldS
import Derived.Test.YtgfafidlkldeaaaGreatNt
import Derived.Test.YtgfafidlkldeaaaGreatVc7
import Derived.Test.YtgfafidlkldeaaaGreatBigC
import Derived.Test.YtgfafidlkldeaaaGreatAu
set_option linter.unusedVariables false
set_option linter.unusedSimpArgs false
set_option maxHeartbeats 4000000
set_option maxRecDepth 4000
namespace Go.Proofs.YtgfafidlkldeaaaGreat
section
namespace Fp
theorem N6 : 0 < p := by unfold p; omega
theorem N4 : 2 < p := by unfold p; omega
theorem Qk : Nt.mK p := Nt.Ou
instance : NeZero p := ⟨by unfold p; omega⟩
abbrev F := Fin p
def of (x : Nat) : F := ⟨x % p, Nat.mod_lt _ N6⟩
theorem My (a : F) : of a.val = a := Fin.ext (Nat.mod_eq_of_lt a.isLt)
theorem ue (x : Nat) : (of x).val = x % p := rfl
theorem val_add (a b : F) : (a + b).val = (a.val + b.val) % p := Fin.val_add a b
theorem val_mul (a b : F) : (a * b).val = a.val * b.val % p := Fin.val_mul a b
theorem val_sub (a b : F) : (a - b).val = (a.val + p - b.val) % p := by
 have := b.isLt
 rw [Fin.sub_def]; show (p - b.val + a.val) % p = _
 congr 1; omega
theorem val_neg (a : F) : (-a).val = (p - a.val) % p := by
 rw [Fin.neg_def]
theorem val_zero : (0 : F).val = 0 := rfl
theorem val_one : (1 : F).val = 1 := rfl
theorem Gc (x y : Nat) : of (x * y) = of x * of y := Fin.ext (by rw [val_mul, ue, ue, ue, Nat.mul_mod])
theorem val_inj {a b : F} : a.val = b.val ↔ a = b := ⟨Fin.ext, fun h => by rw [h]⟩
theorem val_eq_zero {a : F} : a.val = 0 ↔ a = 0 := val_inj (b := 0)
theorem zero_or {a b : F} (h : a * b = 0) : a = 0 ∨ b = 0 := by
 have hv : a.val * b.val % p = 0 := by rw [← val_mul, h]; rfl
 rcases Qk.dvd_mul (Nat.dvd_of_mod_eq_zero hv) with hd | hd
 ·left; exact val_eq_zero.1 (Nat.eq_zero_of_dvd_of_lt hd a.isLt)
 ·right; exact val_eq_zero.1 (Nat.eq_zero_of_dvd_of_lt hd b.isLt)
theorem cancel {a b c : F} (ha : a ≠ 0) (h : a * b = a * c) : b = c := by
 have : a * (b - c) = 0 := by grind
 rcases zero_or this with h | h
 ·exact absurd h ha
 ·grind
def pow (a : F) (e : Nat) : F := of (a.val ^ e)
theorem zV (a : F) (e : Nat) : (pow a e).val = a.val ^ e % p := rfl
theorem pow_zero (a : F) : pow a 0 = 1 := by unfold pow; rw [Nat.pow_zero]; rfl
theorem pow_succ (a : F) (e : Nat) : pow a (e + 1) = pow a e * a := by unfold pow; rw [Nat.pow_succ, Gc, My]
theorem pow_one (a : F) : pow a 1 = a := by rw [show (1 : Nat) = 0 + 1 from rfl, pow_succ, pow_zero]; grind
theorem pow_add (a : F) (m n : Nat) : pow a (m + n) = pow a m * pow a n := by
 unfold pow; rw [Nat.pow_add, Gc]
theorem pow_mul (a : F) (m n : Nat) : pow a (m * n) = pow (pow a m) n := by
 induction n with
 | zero => rw [Nat.mul_zero, pow_zero, pow_zero]
 | succ n ih => rw [Nat.mul_succ, pow_add, ih, pow_succ]
theorem zero_pow {n : Nat} (h : 0 < n) : pow 0 n = 0 := by
 obtain ⟨m, rfl⟩ : ∃ m, n = m + 1 := ⟨n - 1, by omega⟩
 rw [pow_succ]; grind
theorem jx (a : F) (n : Nat) : pow a (2 * n) = pow a n * pow a n := by rw [Nat.two_mul, pow_add]
theorem tF {a : F} (h : a ≠ 0) : pow a (p - 1) = 1 := by
 have := Nt.Ap Qk (a := a.val) (fun hd => h (val_eq_zero.1 (Nat.eq_zero_of_dvd_of_lt hd a.isLt)))
 exact Fin.ext this
def inv (a : F) : F := pow a (p - 2)
theorem pM {a : F} (h : a ≠ 0) : a * inv a = 1 := by
 have hf := tF h
 have hp := N4
 rw [show p - 1 = (p - 2) + 1 by omega, pow_succ] at hf
 unfold inv; grind
theorem mw : (1 : F) ≠ 0 := fun h => by have := congrArg Fin.val h; rw [val_zero, val_one] at this; cases this
theorem yJ {a b : F} (h : a * b = 1) : b = inv a := by
 have ha : a ≠ 0 := fun hc => mw (by rw [← h, hc]; grind)
 exact cancel ha (by rw [h, pM ha])
def half : Nat := 28948022309329048855892746252171976963317496166410141009864396001978282409974
theorem NA : p - 1 = 2 * half := rfl
def ry (a : F) : Prop := pow a half = 0 ∨ pow a half = 1
instance (a : F) : Decidable (ry a) := inferInstanceAs (Decidable (_ ∨ _))
theorem pow_eq_zero {a : F} {n : Nat} (h : pow a n = 0) : a = 0 := by
  induction n with
  | zero => rw [pow_zero] at h; exact absurd h mw
  | succ n ih =>
    rw [pow_succ] at h
    rcases zero_or h with h | h
    · exact ih h
    · exact h
theorem kf {a x : F} (h : x * x = a) : ry a := by
 by_cases hx : x = 0
 ·left
  subst hx; rw [← h, show (0 : F) * 0 = 0 by grind]
  exact zero_pow (by unfold half; omega)
 ·right
  rw [← h, show x * x = pow x 2 by rw [show (2 : Nat) = 2 * 1 from rfl, jx, pow_one], ← pow_mul, ← NA]
  exact tF hx
def lP : Nat := 14474011154664524427946373126085988481658748083205070504932198000989141204987
theorem zg : half = 2 * lP := rfl
def e8 : Nat := 7237005577332262213973186563042994240829374041602535252466099000494570602494
theorem Mo : 2 * e8 = lP + 1 := rfl
def im : F := of 19681161376707505956807079304988542015446066515923890162744021073123829784752
theorem zp : pow (of 2) lP = im := Fin.ext (by
 rw [zV, show (of 2).val = 2 from rfl, ← Nt.nj p 256 2 lP (by decide +kernel)]
 decide +kernel)
theorem Nx : im * im = -1 := by decide +kernel
def bL (a : F) : F := pow a e8
theorem Fi (a : F) : bL a * bL a = a * pow a lP := by
 unfold bL
 rw [← jx, Mo, pow_succ]; grind
theorem vz {a : F} (h : ry a) : bL a * bL a = a ∨ (bL a * im) * (bL a * im) = a := by
 have hg := Fi a
 have hi := Nx
 rcases h with h | h
 ·left
  obtain rfl := pow_eq_zero h
  rw [hg]; grind
 ·have hq : pow a lP * pow a lP = 1 := by rw [← jx, ← zg, h]
  have : (pow a lP - 1) * (pow a lP + 1) = 0 := by grind
  rcases zero_or this with hz | hz
  ·left; grind
  ·right; grind
theorem GM {x : F} (h : x.val % 2 = 1) : (-x).val % 2 = 0 := by
 rw [val_neg]
 have hp : p % 2 = 1 := by decide +kernel
 rw [show (p - x.val) % p = p - x.val from Nat.mod_eq_of_lt (by omega)]
 omega
def root (a : F) : F := let x := if bL a * bL a = a then bL a else bL a * im; if x.val % 2 = 1 then -x else x
theorem Kf {a : F} (h : ry a) : root a * root a = a := by
 have h2 := vz h
 unfold root
 by_cases hg : bL a * bL a = a
 ·simp only [if_pos hg]; split <;> grind
 ·simp only [if_neg hg]
  split <;> grind
theorem BA (a : F) : (root a).val % 2 = 0 := by
 have key : ∀ x : F, (if x.val % 2 = 1 then -x else x).val % 2 = 0 := fun x => by
  by_cases h : x.val % 2 = 1
  ·rw [if_pos h]; exact GM h
  ·rw [if_neg h]; omega
 exact key _
theorem Ci {x y : F} (h : x * x = y * y) : x = y ∨ x = -y := by
 have : (x - y) * (x + y) = 0 := by grind
 rcases zero_or this with h | h
 ·left; grind
 ·right; grind
end Fp
end
section
section
namespace Ed
open Fp
def d : F := of 37095705934669439343138083508754565189542113879843219016388785533085940283555
theorem PE : pow d half = -1 := Fin.ext (by
 rw [zV, show d.val = 37095705934669439343138083508754565189542113879843219016388785533085940283555 from rfl, ← Nt.nj p 256 _ half (by decide +kernel)]
 decide +kernel)
theorem Hr : (2 : F) ≠ 0 := by decide +kernel
theorem MP : ¬ ry d := fun h => by
 have h1 := PE
 rcases h with h | h
 ·rw [h] at h1; exact absurd h1 (by decide +kernel)
 ·rw [h] at h1; exact absurd h1 (by decide +kernel)
theorem LK : im * im = -1 := by decide +kernel
def On (P : F × F) : Prop := P.2 * P.2 - P.1 * P.1 = 1 + d * P.1 * P.1 * P.2 * P.2
instance (P : F × F) : Decidable (On P) := inferInstanceAs (Decidable (_ = _))
def add (P Q : F × F) : F × F := ((P.1 * Q.2 + Q.1 * P.2) * inv (1 + d * P.1 * Q.1 * P.2 * Q.2), (P.2 * Q.2 + P.1 * Q.1) * inv (1 - d * P.1 * Q.1 * P.2 * Q.2))
def O : F × F := (0, 1)
theorem GZ {a b : F} (h : a * a = d * (b * b)) : b = 0 := by
 by_cases hb : b = 0
 ·exact hb
 ·exfalso
  apply MP
  have hi := pM hb
  refine kf (x := a * inv b) ?_
  have : a * inv b * (a * inv b) = (a * a) * (inv b * inv b) := by grind
  rw [this, h]
  have h2 : d * (b * b) * (inv b * inv b) = d * ((b * inv b) * (b * inv b)) := by grind
  rw [h2, hi]; grind
theorem Oq (e : F) : (1 : F) + e * 0 * 0 * 0 * 0 = 1 := by
 have h : e * 0 * 0 * 0 * 0 = 0 := by grind
 rw [h]; decide +kernel
theorem NX : (0 : F) * 0 - 0 * 0 = 0 := by decide +kernel
theorem OD {x y : F} (h : On (x, y)) : ¬ (x = 0 ∧ y = 0) := fun ⟨h1, h2⟩ => by
 subst h1; subst h2
 unfold On at h
 simp only at h
 rw [Oq, NX] at h
 exact mw h.symm
theorem gp {a b : F} (ha : a ≠ 0) (hb : b ≠ 0) : a * b ≠ 0 := fun h => (zero_or h).elim ha hb
theorem zW {x1 y1 x2 y2 e : F} (h1 : On (x1, y1)) (h2 : On (x2, y2)) (he : e * e = 1) : d * x1 * x2 * y1 * y2 ≠ e := fun hc => by
 unfold On at h1 h2
 simp only at h1 h2
 have hi := LK
 have hen : e ≠ 0 := fun h0 => mw (by rw [← he, h0]; grind)
 have hxy : x1 * y1 ≠ 0 := fun h0 => hen (by rw [← hc]; grind)
 -- (i x1 + e' y1)^2 = - d x1^2 y1^2 (i x2 + y2)^2 , both signs
 have a1 : (im * x1 + e * y1) * (im * x1 + e * y1) = d * ((x1 * y1 * (im * x2 + y2)) * (x1 * y1 * (im * x2 + y2))) := by grind
 have a2 : (im * x1 - e * y1) * (im * x1 - e * y1) = d * ((x1 * y1 * (im * x2 - y2)) * (x1 * y1 * (im * x2 - y2))) := by grind
 have him : im ≠ 0 := fun h0 => mw (by rw [h0] at hi; grind)
 have c1 := (zero_or (GZ a1)).resolve_left hxy
 have c2 := (zero_or (GZ a2)).resolve_left hxy
 have hy : 2 * y2 = 0 := by grind
 have Vw := (zero_or hy).resolve_left Hr
 have hx : im * x2 = 0 := by grind
 exact OD (x := x2) (y := y2) (by unfold On; exact h2) ⟨(zero_or hx).resolve_left him, Vw⟩
theorem zI {x1 y1 x2 y2 : F} (h1 : On (x1, y1)) (h2 : On (x2, y2)) : 1 + d * x1 * x2 * y1 * y2 ≠ 0 := fun h =>
 zW h1 h2 (e := -1) (by decide +kernel) (by grind)
theorem y8 {x1 y1 x2 y2 : F} (h1 : On (x1, y1)) (h2 : On (x2, y2)) : 1 - d * x1 * x2 * y1 * y2 ≠ 0 := fun h =>
 zW h1 h2 (e := 1) (by decide +kernel) (by grind)
theorem M8 {x1 y1 x2 y2 x3 y3 : F} (E1 : On (x1, y1)) (E2 : On (x2, y2)) (E3 : On (x3, y3)) :
  ((x1*y2+x2*y1)*(1-d*x1*x2*y1*y2)*y3 + x3*(y1*y2+x1*x2)*(1+d*x1*x2*y1*y2)) * ((1-d*x2*x3*y2*y3)*(1+d*x2*x3*y2*y3) + d*x1*y1*(x2*y3+x3*y2)*(y2*y3+x2*x3))
  = (x1*(y2*y3+x2*x3)*(1+d*x2*x3*y2*y3) + (x2*y3+x3*y2)*(1-d*x2*x3*y2*y3)*y1) * ((1-d*x1*x2*y1*y2)*(1+d*x1*x2*y1*y2) + d*x3*y3*(x1*y2+x2*y1)*(y1*y2+x1*x2)) := by
 unfold On at E1 E2 E3
 simp only at E1 E2 E3
 generalize d = e at *
 grind
theorem MS {x1 y1 x2 y2 x3 y3 : F} (E1 : On (x1, y1)) (E2 : On (x2, y2)) (E3 : On (x3, y3)) :
  ((y1*y2+x1*x2)*(1+d*x1*x2*y1*y2)*y3 + x3*(x1*y2+x2*y1)*(1-d*x1*x2*y1*y2)) * ((1-d*x2*x3*y2*y3)*(1+d*x2*x3*y2*y3) - d*x1*y1*(x2*y3+x3*y2)*(y2*y3+x2*x3))
  = (y1*(y2*y3+x2*x3)*(1+d*x2*x3*y2*y3) + (x2*y3+x3*y2)*(1-d*x2*x3*y2*y3)*x1) * ((1-d*x1*x2*y1*y2)*(1+d*x1*x2*y1*y2) - d*x3*y3*(x1*y2+x2*y1)*(y1*y2+x1*x2)) := by
 unfold On at E1 E2 E3
 simp only at E1 E2 E3
 generalize d = e at *
 grind
theorem Od {x1 y1 x2 y2 : F} (E1 : On (x1, y1)) (E2 : On (x2, y2)) :
  ((y1*y2+x1*x2)*(1+d*x1*x2*y1*y2))*((y1*y2+x1*x2)*(1+d*x1*x2*y1*y2)) - ((x1*y2+x2*y1)*(1-d*x1*x2*y1*y2))*((x1*y2+x2*y1)*(1-d*x1*x2*y1*y2))
  = ((1-d*x1*x2*y1*y2)*(1+d*x1*x2*y1*y2))*((1-d*x1*x2*y1*y2)*(1+d*x1*x2*y1*y2)) + d * ((y1*y2+x1*x2)*(y1*y2+x1*x2)) * ((x1*y2+x2*y1)*(x1*y2+x2*y1)) := by
 unfold On at E1 E2
 simp only at E1 E2
 generalize d = e at *
 grind
theorem uJ {a b c : F} (hb : b ≠ 0) (h : a = c * b) : c = a * inv b := by
 have := pM hb
 grind
theorem div_mul {a b : F} (hb : b ≠ 0) : a * inv b * b = a := by
 have := pM hb
 grind
theorem rf {P Q : F × F} (h1 : On P) (h2 : On Q) : 1 + d * P.1 * Q.1 * P.2 * Q.2 ≠ 0 := zI (x1 := P.1) (y1 := P.2) (x2 := Q.1) (y2 := Q.2) h1 h2
theorem qZ {P Q : F × F} (h1 : On P) (h2 : On Q) : 1 - d * P.1 * Q.1 * P.2 * Q.2 ≠ 0 := y8 (x1 := P.1) (y1 := P.2) (x2 := Q.1) (y2 := Q.2) h1 h2
theorem sD {P Q : F × F} (h1 : On P) (h2 : On Q) : (add P Q).1 * (1 + d * P.1 * Q.1 * P.2 * Q.2) = P.1 * Q.2 + Q.1 * P.2 := div_mul (zI h1 h2)
theorem r8 {P Q : F × F} (h1 : On P) (h2 : On Q) : (add P Q).2 * (1 - d * P.1 * Q.1 * P.2 * Q.2) = P.2 * Q.2 + P.1 * Q.1 := div_mul (y8 h1 h2)
theorem ur {P Q : F × F} (h1 : On P) (h2 : On Q) : On (add P Q) := by
 obtain ⟨x1, y1⟩ := P
 obtain ⟨x2, y2⟩ := Q
 have hx := sD h1 h2
 have hy := r8 h1 h2
 have hp := zI h1 h2
 have hm := y8 h1 h2
 have ho := Od h1 h2
 generalize add (x1, y1) (x2, y2) = R at *
 obtain ⟨x, y⟩ := R
 simp only at hx hy
 unfold On
 simp only
 have hpm := gp (gp hp hm) (gp hp hm)
 refine cancel hpm ?_
 generalize d = e at *
 generalize Vw : 1 + e * x1 * x2 * y1 * y2 = s at *
 generalize Vx : 1 - e * x1 * x2 * y1 * y2 = t at *
 rw [← hx, ← hy] at ho
 clear hx hy hp hm Vw Vx hpm h1 h2
 grind
theorem PY : On O := by decide +kernel
theorem inv_one : inv (1 : F) = 1 := (yJ (a := 1) (b := 1) (by decide +kernel)).symm
theorem NY (P : F × F) : add P O = P := by
 obtain ⟨x, y⟩ := P
 unfold add O
 simp only
 have e1 : x * 1 + 0 * y = x := by grind
 have e2 : y * 1 + x * 0 = y := by grind
 have e3 : d * x * 0 * y * 1 = 0 := by grind
 have e4 : (1 : F) + 0 = 1 := by decide +kernel
 have e5 : (1 : F) - 0 = 1 := by decide +kernel
 rw [e1, e2, e3, e4, e5, inv_one]
 clear e1 e2 e3 e4 e5
 have e6 : x * 1 = x := by grind
 have e7 : y * 1 = y := by grind
 rw [e6, e7]
theorem AZ {A B n m u r : F} (hA : A ≠ 0) (hB : B ≠ 0) (hu : u * A = n) (hr : r * B = m) (key : n * B = m * A) : u = r := by
 refine cancel (gp hA hB) ?_
 rw [← hu, ← hr] at key
 clear hu hr hA hB
 grind
theorem add_assoc {P Q R : F × F} (h1 : On P) (h2 : On Q) (h3 : On R) : add (add P Q) R = add P (add Q R) := by
 have Vw := ur h1 h2
 have Vx := ur h2 h3
 have Vy := sD h1 h2
 have Vz := r8 h1 h2
 have VA := sD h2 h3
 have VB := r8 h2 h3
 have xl := sD Vw h3
 have yl := r8 Vw h3
 have xr := sD h1 Vx
 have yr := r8 h1 Vx
 have pl := rf Vw h3
 have ml := qZ Vw h3
 have pr := rf h1 Vx
 have mr := qZ h1 Vx
 have VC := rf h1 h2
 have VD := qZ h1 h2
 have VE := rf h2 h3
 have VF := qZ h2 h3
 have ax := M8 h1 h2 h3
 have ay := MS h1 h2 h3
 generalize add (add P Q) R = L at *
 generalize add P (add Q R) = M at *
 generalize add P Q = S at *
 generalize add Q R = T at *
 obtain ⟨x1, y1⟩ := P; obtain ⟨x2, y2⟩ := Q; obtain ⟨x3, y3⟩ := R; obtain ⟨a, b⟩ := S; obtain ⟨f, g⟩ := T; obtain ⟨u, v⟩ := L; obtain ⟨r, s⟩ := M
 simp only at *
 clear h1 h2 h3 Vw Vx
 have hne := gp (gp VC VD) (gp VE VF)
 generalize d = e at *
 refine Prod.ext ?_ ?_
 ·show u = r
  refine AZ pl pr xl xr (cancel hne ?_)
  rw [← Vy, ← Vz, ← VA, ← VB] at ax
  clear xl yl xr yr pl ml pr mr ay Vy Vz VA VB hne VC VD VE VF
  generalize 1 + e * x1 * x2 * y1 * y2 = A at *
  generalize 1 - e * x1 * x2 * y1 * y2 = B at *
  generalize 1 + e * x2 * x3 * y2 * y3 = C at *
  generalize 1 - e * x2 * x3 * y2 * y3 = D at *
  grind
 ·show v = s
  refine AZ ml mr yl yr (cancel hne ?_)
  rw [← Vy, ← Vz, ← VA, ← VB] at ay
  clear xl yl xr yr pl ml pr mr ax Vy Vz VA VB hne VC VD VE VF
  generalize 1 + e * x1 * x2 * y1 * y2 = A at *
  generalize 1 - e * x1 * x2 * y1 * y2 = B at *
  generalize 1 + e * x2 * x3 * y2 * y3 = C at *
  generalize 1 - e * x2 * x3 * y2 * y3 = D at *
  grind
end Ed
end
section
namespace Ed
open Fp
def mul : Nat → F × F → F × F
 | 0, _ => O
 | n + 1, P => add (mul n P) P
theorem ui {P : F × F} (h : On P) : ∀ n, On (mul n P)
 | 0 => PY
 | n + 1 => ur (ui h n) h
theorem mul_add {P : F × F} (h : On P) (m : Nat) : ∀ n, mul (m + n) P = add (mul m P) (mul n P)
  | 0 => (NY _).symm
  | n + 1 => by
    show add (mul (m + n) P) P = add (mul m P) (add (mul n P) P)
    rw [mul_add h m n, add_assoc (ui h m) (ui h n) h]
theorem mul_two {P : F × F} (h : On P) (n : Nat) : mul (2 * n) P = add (mul n P) (mul n P) := by rw [Nat.two_mul, mul_add h]
/-! Points by quotients. -/
structure Q4 where
 (x y z t : F)
def pP (q : Q4) (P : F × F) : Prop := q.z ≠ 0 ∧ q.x = P.1 * q.z ∧ q.y = P.2 * q.z ∧ q.t * q.z = q.x * q.y
def MU (p q : Q4) : Q4 :=
 let a := (p.y - p.x) * (q.y - q.x)
 let b := (p.y + p.x) * (q.y + q.x)
 let c := p.t * (d + d) * q.t
 let e := (p.z + p.z) * q.z
 ⟨(b - a) * (e - c), (e + c) * (b + a), (e - c) * (e + c), (b - a) * (b + a)⟩
theorem Lj {q : Q4} {P : F × F} (h : pP q P) : q.t = P.1 * P.2 * q.z := by
 obtain ⟨h1, h2, h3, h4⟩ := h
 refine cancel h1 ?_
 rw [h2, h3] at h4
 generalize q.t = t at *
 generalize q.z = z at *
 clear h2 h3 h1
 grind
theorem Kb {p q : Q4} {P Q : F × F} (h : pP p P) (k : pP q Q) (hP : On P) (hQ : On Q) : pP (MU p q) (add P Q) := by
 have ht := Lj h
 have kt := Lj k
 have hx := sD hP hQ
 have hy := r8 hP hQ
 have pp := rf hP hQ
 have pm := qZ hP hQ
 obtain ⟨h1, h2, h3, _⟩ := h
 obtain ⟨k1, k2, k3, _⟩ := k
 generalize add P Q = R at *
 obtain ⟨x1, y1⟩ := P; obtain ⟨x2, y2⟩ := Q; obtain ⟨x, y⟩ := R
 obtain ⟨a, b, z1, t1⟩ := p; obtain ⟨e, f, z2, t2⟩ := q
 simp only at *
 clear hP hQ
 subst h2 h3 k2 k3 ht kt
 unfold MU pP
 simp only
 generalize d = D at *
 have eF : (y1 * z1 + x1 * z1) * (y2 * z2 + x2 * z2) - (y1 * z1 - x1 * z1) * (y2 * z2 - x2 * z2) = 2 * (z1 * z2) * (x1 * y2 + x2 * y1) := by grind
 have eI : (y1 * z1 + x1 * z1) * (y2 * z2 + x2 * z2) + (y1 * z1 - x1 * z1) * (y2 * z2 - x2 * z2) = 2 * (z1 * z2) * (y1 * y2 + x1 * x2) := by grind
 have eG : (z1 + z1) * z2 - x1 * y1 * z1 * (D + D) * (x2 * y2 * z2) = 2 * (z1 * z2) * (1 - D * x1 * x2 * y1 * y2) := by grind
 have eH : (z1 + z1) * z2 + x1 * y1 * z1 * (D + D) * (x2 * y2 * z2) = 2 * (z1 * z2) * (1 + D * x1 * x2 * y1 * y2) := by grind
 rw [eF, eI, eG, eH, ← hx, ← hy]
 have hz := gp Hr (gp h1 k1)
 clear hx hy eF eI eG eH
 generalize 1 + D * x1 * x2 * y1 * y2 = A at *
 generalize 1 - D * x1 * x2 * y1 * y2 = B at *
 generalize 2 * (z1 * z2) = Z at *
 refine ⟨gp (gp hz pm) (gp hz pp), ?_, ?_, ?_⟩
 ·clear hz pm pp h1 k1; grind
 ·clear hz pm pp h1 k1; grind
 ·clear hz pm pp h1 k1; grind
def Qd (P : F × F) : Q4 := ⟨P.1, P.2, 1, P.1 * P.2⟩
theorem Nl (P : F × F) : pP (Qd P) P := by
 unfold Qd pP
 simp only
 refine ⟨mw, ?_, ?_, ?_⟩ <;> grind
def L : Nat := 7237005577332262213973186563042994240857116359379907606001950938285454250989
def B : F × F := (of 15112221349535400772501151409588531511454012693041857206046113283949847762202, of 46316835694926478169428394003475163141307993866256225615783033603165251855960)
theorem No : On B := by decide +kernel
theorem Et : L < 2 ^ 253 := by decide +kernel
end Ed
end
end
section
open Go.RowKit Tryz
attribute [local irreducible] Y Ef WL WC WK WQ WM cE
def fe (f : Nat → Nat) : Array Value := aN .u64 (Fp.fn 5 f)
theorem aj (f : Nat → Nat) : (fe f).size = 5 := by rw [fe, bf, Fp.dX]
theorem dy (f : Nat → Nat) {i j : Nat} (hi : i = j) (h : j < 5) : (fe f)[i]? = some (.int .u64 (f j : Nat)) := by
 subst hi; rw [fe, dw _ _ _ (by rw [Fp.dX]; exact h), Fp.qJ f h]
theorem gS (f : Nat → Nat) (i x : Nat) : (fe f).setIfInBounds i (.int .u64 (x : Int)) = fe (fun j => if j = i then x else f j) := by
 rw [fe, fC, Fp.xX, fe]
theorem bh (f : Nat → Nat) : (fe f).all (·.oneCell') = true := cO _ _
theorem dG {f g : Nat → Nat} (h : ∀ j, j < 5 → f j = g j) : fe f = fe g := by unfold fe; rw [Fp.nd h]
theorem tq (x : Nat) (_ : x < 18446744073709551616) : (x : Int) / 2 ^ (min (51 : Int).toNat IntKind.u64.bits) = ((x / 2251799813685248 : Nat) : Int) := by
 rw [show (2 : Int) ^ (min (51 : Int).toNat IntKind.u64.bits) = ((2251799813685248 : Nat) : Int) from rfl]
 exact (Int.natCast_ediv _ _).symm
theorem kq (x : Nat) (hx : x < 18446744073709551616) : bits .and .u64 (x : Int) 2251799813685247 = ((x % 2251799813685248 : Nat) : Int) := by
 have h := (cu (p := x) (q := 2251799813685247) hx Om).1
 rw [show ((2251799813685247 : Int)) = ((2251799813685247 : Nat) : Int) from rfl, h, show (2251799813685247 : Nat) = 2 ^ 51 - 1 from rfl, Nat.and_two_pow_sub_one_eq_mod]
theorem jk (f : Nat → Nat) (w : World) (hf : ∀ j, j < 5 → f j < 18446744073709551616) :
  Ct 202 #[.agg (fe f)] w fun e w' => e = .returned (.agg (fe (Fp.carry f))) ∧ Ext w w' := by
 refine aH (s := 5) 46 func202 rfl rfl rfl underlying134 rfl Kr rfl ?_
 intro _ hret
 refine aU ?_
 intro w1 g1 (B1 : ao _ _ _ (fe f)) VO ex
 have E1 := ex
 refine aU ?_
 intro w2 g2 (B2 : ao _ _ _ (fe (fun _ => 0))) VB ex
 have E2 := E1.ext ex; have Vz := B1.ext ex
 refine au 4 ?_
 refine ak (aq rfl (cells := fe (fun _ => 0)) Kr) ?_
 refine aU ?_
 intro w3 g3 (B3 : ao _ _ _ (fe (fun _ => 0))) VC ex
 have E3 := E2.ext ex; have VD := Vz.ext ex; have Vw : w.heap.size ≤ g3 := Nat.le_trans E2.size VC; have VE := B2.ext ex
 refine ag (ah rfl rfl Kr B3 rfl (bh _)) rfl ?_
 rintro _ w4 ⟨rfl, B4, cg⟩
 have E4 := E3.aE cg Vw; have VP := Vz.lt; have VQ := B2.lt; have VF := VD.aE cg Om; have VG := VE.aE cg Om; replace B4 : ao w4 g3 132 (fe (fun _ => 0)) := B4
 refine aU ?_
 refine az (fun n' L wr => ∃ i : Nat, L = [(1, .pointer (some ⟨g1, 0, none⟩)), (2, .pointer (some ⟨g2, 0, none⟩)), (3, .pointer (some ⟨g3, 0, none⟩)), (12, .agg (fe f)), (13, .int .i64 (i : Int))] ∧ n' = 5 - i ∧ (i ≤ 5 ∧ Ext w wr ∧ ao wr g1 134 (fe f) ∧ ao wr g2 134 (fe (fun _ => 0)) ∧ ao wr g3 132 (fe (fun j => if j < i then f j / 2251799813685248 else 0)))) _ _ ⟨0, rfl, rfl, by omega, E4, VF, VG, B4⟩ Ls ?_
 rintro _ n' L wr ⟨i, rfl, rfl, _, F, C1, C2, C3⟩ VH
 refine aU ?_
 refine al rfl (fun VI => ?_) (fun VI => ?_)
 ·refine au 7 ?_
  refine ak (mW rfl rfl Tn.u Tn.u rfl Kr rfl Om (dy f rfl Om)) ?_
  refine au 7 ?_
  refine ak (bZ rfl rfl Om (tq _ (hf i Om))) ?_
  refine au 1 ?_
  refine ag (av rfl rfl rfl Kr C3 (by rw [aj]; omega)) rfl ?_
  rintro _ _ ⟨rfl, B5, cg⟩
  rw [Nat.zero_add, gS] at B5; have F5 := F.aE cg Vw; have D1 := C1.aE cg Om; have D2 := C2.aE cg Om
  refine au 7 ?_
  refine ae ?_
  refine VH _ _ ⟨i + 1, rfl, rfl, by omega, F5, D1, D2, B5.congr (dG fun j hj => by split <;> split <;> (try split) <;> (first | omega | rfl | (exfalso; omega) | (subst_vars; rfl)))⟩ Om Ls
 ·refine aU ?_
  intro w6 g6 (B6 : ao _ _ _ (fe (fun _ => 0))) VJ ex
  have E6 := F.ext ex; have D1 := C1.ext ex; have D2 := C2.ext ex; have D3 := C3.ext ex; have Vx : w.heap.size ≤ g6 := Nat.le_trans F.size VJ; have VR := C3.lt; have VK := C2.lt
  refine aU ?_
  refine az (fun n' L wq => ∃ k : Nat, L = [(2, .pointer (some ⟨g2, 0, none⟩)), (3, .pointer (some ⟨g3, 0, none⟩)), (6, .pointer (some ⟨g6, 0, none⟩)), (23, .agg (fe f)), (24, .int .i64 (k : Int))] ∧ n' = 5 - k ∧ (k ≤ 5 ∧ Ext w wq ∧ ao wq g2 134 (fe (fun _ => 0)) ∧ ao wq g3 132 (fe (fun j => if j < i then f j / 2251799813685248 else 0)) ∧ ao wq g6 134 (fe (fun j => if j < k then Fp.carry f j else 0)))) _ _ ⟨0, rfl, rfl, by omega, E6, D2, D3, B6⟩ Ls ?_
  rintro _ n' L wq ⟨k, rfl, rfl, _, G, K2, K3, K6⟩ VA
  refine aU ?_
  refine al rfl (fun VL => ?_) (fun VL => ?_)
  ·refine au 7 ?_
   refine ak (mW rfl rfl Tn.u Tn.u rfl Kr rfl Om (dy f rfl Om)) ?_
   refine au 7 ?_
   refine ak (aO rfl rfl (bj (n := k + 4) Om Om)) ?_
   refine ak (cK rfl rfl Om (show (((k + 4 : Nat) : Int).tmod 5 = (((k + 4) % 5 : Nat) : Int)) from rfl)) ?_
   refine au 1 ?_
   refine ak (af rfl Tn.u rfl (K3.get (dy _ (by rw [Nat.zero_add]) Om))) ?_
   refine au 2 ?_
   obtain ⟨c, hc⟩ : ∃ c, c = (if (k + 4) % 5 < i then f ((k + 4) % 5) / 2251799813685248 else 0) := ⟨_, rfl⟩
   rw [← hc]
   have hcl : c < 8192 := by rw [hc]; have := hf ((k + 4) % 5) Om; split <;> omega
   have hkl := hf k Om
   refine aU ?_
   refine al rfl (fun VM => ?_) (fun VM => ?_)
   ·refine au 2 ?_
    refine ak (cD rfl rfl (aF (n := c * 19) Om Om)) ?_
    refine au 6 ?_
    refine ak (cM rfl rfl (kq _ (hf k Om))) ?_
    refine au 1 ?_
    refine ak (aO rfl rfl (aF (n := f k % 2251799813685248 + c * 19) Om Om)) ?_
    refine au 2 ?_
    refine ag (av rfl rfl rfl Kr K6 (by rw [aj]; omega)) rfl ?_
    rintro _ w7 ⟨rfl, B7, cg⟩
    rw [Nat.zero_add, gS] at B7; have G7 := G.aE cg Vx; have L2 := K2.aE cg Om; have L3 := K3.aE cg Om
    refine au 7 ?_
    refine ae ?_
    refine VA _ _ ⟨k + 1, rfl, rfl, by omega, G7, L2, L3, B7.congr (dG fun j hj => by
     have VN : k = 0 := by omega
     subst VN
     by_cases Vy : j = 0
     ·subst Vy; rw [if_pos rfl, if_pos Om, hc, if_pos Om]; rfl
     ·rw [if_neg Vy, if_neg Om, if_neg Om])⟩ Om Ls
   ·refine au 5 ?_
    refine ak (cM rfl rfl (kq _ (hf k Om))) ?_
    refine au 1 ?_
    refine ak (aO rfl rfl (aF (n := f k % 2251799813685248 + c) Om Om)) ?_
    refine au 2 ?_
    refine ag (av rfl rfl rfl Kr K6 (by rw [aj]; omega)) rfl ?_
    rintro _ w7 ⟨rfl, B7, cg⟩
    rw [Nat.zero_add, gS] at B7; have G7 := G.aE cg Vx; have L2 := K2.aE cg Om; have L3 := K3.aE cg Om
    refine au 7 ?_
    refine ae ?_
    refine VA _ _ ⟨k + 1, rfl, rfl, by omega, G7, L2, L3, B7.congr (dG fun j hj => by
     by_cases Vy : j = k
     ·subst Vy; rw [if_pos rfl, if_pos Om, hc, if_pos Om, Fp.carry, if_neg Om, show (j + 4) % 5 = j - 1 by omega]
     ·rw [if_neg Vy]; by_cases h2 : j < k
      ·rw [if_pos h2, if_pos Om]
      ·rw [if_neg h2, if_neg Om])⟩ Om Ls
  ·refine au 8 ?_
   refine ag (ah rfl rfl (by rw [aj]; kernel_rfl) K2 (by rw [aj, aj]) (bh _)) rfl ?_
   rintro _ _ ⟨rfl, B8, cg⟩
   have G8 := G.aE cg (Nat.le_trans E1.size VB)
   refine aU ?_
   refine hret rfl B8 (aj _) ?_
   exact ⟨by rw [dG (g := Fp.carry f) fun j hj => by rw [if_pos Om]], G8⟩
theorem lv (f : Nat → Nat) (w : World) (hf : Fp.small f) :
  Ct 209 #[.agg (fe f)] w fun e w' => e = .returned (.agg (fe (Fp.fx (Fp.val f % Fp.p)))) ∧ Ext w w' := by
 obtain ⟨h, hh⟩ : ∃ h, h = Fp.carry (Fp.carry f) := ⟨_, rfl⟩
 have hs := Fp.fX (f := f) (fun j hj => by have := hf j hj; omega)
 have hb : ∀ j, j < 5 → h j < 2251799813685248 + 19 := fun j hj => by rw [hh]; exact Fp.sV hs j hj
 have Vy : ∀ j, j < 5 → h j < 4503599627370496 := fun j hj => by have := hb j hj; omega
 have hend : ∀ j, j < 5 → (h j + Fp.rc h (Fp.qc h 5) j) % 2251799813685248 = Fp.fx (Fp.val f % Fp.p) j := fun j hj => Fp.Dx hf hh j hj
 refine aH (s := 5) 64 func209 rfl rfl rfl underlying134 rfl Kr rfl ?_
 intro _ hret
 refine aU ?_
 intro w1 g1 (B1 : ao _ _ _ (fe f)) Vw ex
 have E1 := ex; have VO := B1.lt
 refine aU ?_
 intro w2 g2 (B2 : ao _ _ _ (fe (fun _ => 0))) VB ex
 have E2 := E1.ext ex; have VC := B1.ext ex; have Vz : w.heap.size ≤ g2 := Nat.le_trans E1.size VB
 refine aU ?_
 refine aB func202 rfl (jk f _ (fun j hj => by have := hf j hj; omega)) ?_
 rintro e _ ⟨rfl, ex⟩
 refine aU ?_
 have E3 := E2.ext ex; have C1 := VC.ext ex; have C2 := B2.ext ex
 refine aB func202 rfl (jk _ _ (fun j hj => by have := hs j hj; omega)) ?_
 rintro e _ ⟨rfl, ex⟩
 refine au 1 ?_
 rw [← hh]; have E4 := E3.ext ex; have D1 := C1.ext ex; have D2 := C2.ext ex
 refine ag (ah rfl rfl (by rw [aj]; kernel_rfl) D1 (by rw [aj, aj]) (bh _)) rfl ?_
 rintro _ w5 ⟨rfl, B5, cg⟩
 have E5 := E4.aE cg Vw; have D5 := D2.aE cg Om
 refine au 5 ?_
 refine ak (bG rfl rfl Tn.u Kr (j := 0) rfl Om) ?_
 refine ak (af rfl Tn.u rfl (B5.get (dy h (j := 0) rfl Om))) ?_
 refine ak (aO rfl rfl (aF (n := h 0 + 19) Om (by have := hb 0 Om; omega))) ?_
 refine ak (bZ rfl rfl Om (tq _ (by have := hb 0 Om; omega))) ?_
 refine aU ?_
 refine az (fun n' L wr => ∃ i : Nat, L = [(1, .pointer (some ⟨g1, 0, none⟩)), (2, .pointer (some ⟨g2, 0, none⟩)), (3, .int .u64 ((Fp.qc h i : Nat) : Int)), (4, .int .i64 (i : Int))] ∧ n' = 5 - i ∧ (i ≤ 5 ∧ wr = w5)) _ _ ⟨1, rfl, rfl, by omega, rfl⟩ Ls ?_
 rintro _ n' L wr ⟨i, rfl, rfl, _, hw⟩ VD
 refine aU ?_
 refine al rfl (fun VE => ?_) (fun VE => ?_)
 ·have hq := Fp.Lq Vy i Om
  have hbi := hb i Om
  refine au 8 ?_
  refine ak (af rfl Tn.u rfl ((hw ▸ B5 : ao wr g1 134 (fe h)).get (dy h (by rw [Nat.zero_add]) Om))) ?_
  refine au 1 ?_
  refine ak (aO rfl rfl (aF (n := h i + Fp.qc h i) Om Om)) ?_
  refine ak (bZ rfl rfl Om (tq _ Om)) ?_
  refine au 9 ?_
  refine ae ?_
  refine VD _ _ ⟨i + 1, rfl, rfl, by omega, hw⟩ Om Ls
 ·refine au 6 ?_
  obtain rfl : i = 5 := by omega
  subst hw
  obtain ⟨q, hq⟩ : ∃ q, q = Fp.qc h 5 := ⟨_, rfl⟩
  have Vx : q ≤ 19 := by rw [hq]; exact Fp.Lq Vy 5 Om
  rw [← hq] at hend ⊢
  have VP := hb 0 Om
  refine au 2 ?_
  refine ak (bG rfl rfl Tn.u Kr (j := 0) rfl Om) ?_
  refine ak (af rfl Tn.u rfl (B5.get (dy h (j := 0) rfl Om))) ?_
  refine au 1 ?_
  refine ak (cD rfl rfl (aF (n := 19 * q) Om Om)) ?_
  refine ak (aO rfl rfl (aF (n := h 0 + 19 * q) Om Om)) ?_
  refine au 1 ?_
  refine ak (bG rfl rfl Tn.u Kr (j := 0) rfl Om) ?_
  refine ag (av rfl rfl rfl Kr B5 (by rw [aj]; omega)) rfl ?_
  rintro _ w7 ⟨rfl, B7, cg⟩
  have E7 := E5.aE cg Vw; have D7 := D5.aE cg Om; replace B7 : ao w7 g1 134 (fe (Fp.st h q 0)) := (B7.congr (gS h 0 _)).congr (dG fun j _ => Fp.KH h q j)
  refine aU ?_
  refine az (fun n' L wq => ∃ k : Nat, L = [(1, .pointer (some ⟨g1, 0, none⟩)), (2, .pointer (some ⟨g2, 0, none⟩)), (33, .int .i64 (k : Int))] ∧ n' = 4 - k ∧ (k ≤ 4 ∧ Ext w wq ∧ ao wq g1 134 (fe (Fp.st h q k)) ∧ ao wq g2 134 (fe (fun _ => 0)))) _ _ ⟨0, rfl, rfl, by omega, E7, B7, D7⟩ Ls ?_
  rintro _ n' L wq ⟨k, rfl, rfl, _, F, K1, K2⟩ VF
  refine aU ?_
  refine al rfl (fun VG => ?_) (fun VG => ?_)
  ·refine aU ?_
   have hrc := Fp.Lm Vx Vy k Om
   have hbk := hb k Om; have VH := hb (k + 1) Om
   refine aC Kr 14 rfl ?_; intro VI ex VJ
   have F6 := F.ext ex; have L1 := K1.ext ex; have L2 := K2.ext ex
   refine zm [0, 1, 2] ?_
   refine dk 3 rfl (fun _ => bG rfl rfl Tn.u Kr (j := k + 1) Om Om) ?_
   refine my 4 rfl (af rfl Tn.u rfl (L1.get (v := .int .u64 ((h (k + 1) : Nat) : Int)) (by rw [Nat.zero_add, dy _ rfl Om, Fp.KX]))) ?_
   refine zm [5, 6, 7] ?_
   refine my 8 rfl (af rfl Tn.u rfl (L1.get (v := .int .u64 ((h k + Fp.rc h q k : Nat) : Int)) (by rw [Nat.zero_add, dy _ rfl Om, Fp.Ev]))) ?_
   refine dk 9 rfl (fun _ => bZ rfl rfl Om (tq _ Om)) ?_
   refine dk 10 rfl (fun _ => aO rfl rfl (aF (n := h (k + 1) + (h k + Fp.rc h q k) / 2251799813685248) Om Om)) ?_
   refine zm [11] ?_
   refine dk 12 rfl (fun _ => bG rfl rfl Tn.u Kr (j := k + 1) Om Om) ?_
   refine bk 13 Kr ?_; refine bH rfl (av rfl rfl rfl Kr L1 (by rw [aj]; omega)) rfl ?_
   rintro _ _ ⟨rfl, B8, cg⟩
   refine ⟨.inl rfl, ?_⟩
   rw [Nat.zero_add, gS] at B8; have F8 := F6.aE cg Vw; have M2 := L2.aE cg Om
   refine au 7 ?_
   refine ak (af rfl Tn.u rfl (B8.get (v := .int .u64 ((h k + Fp.rc h q k : Nat) : Int)) (by rw [Nat.zero_add, dy _ rfl Om, if_neg Om, Fp.Ev]))) ?_
   refine ak (cM rfl rfl (kq _ Om)) ?_
   refine au 2 ?_
   refine ag (av rfl rfl rfl Kr B8 (by rw [aj]; omega)) rfl ?_
   rintro _ _ ⟨rfl, B9, cg⟩
   rw [Nat.zero_add, gS] at B9; have F9 := F8.aE cg Vw; have M3 := M2.aE cg Om
   refine au 7 ?_
   refine ae ?_
   refine VF _ _ ⟨k + 1, rfl, rfl, by omega, F9, B9.congr (dG fun j _ => Fp.KV h q k j), M3⟩ Om Ls
  ·obtain rfl : k = 4 := by omega
   have hrc := Fp.Lm Vx Vy 4 Om
   have VQ := hb 4 Om
   refine au 8 ?_
   refine ak (bG rfl rfl Tn.u Kr (j := 4) rfl Om) ?_
   refine ak (af rfl Tn.u rfl (K1.get (v := .int .u64 ((h 4 + Fp.rc h q 4 : Nat) : Int)) (by rw [Nat.zero_add, dy _ rfl Om, Fp.Ev]))) ?_
   refine ak (cM rfl rfl (kq _ Om)) ?_
   refine au 1 ?_
   refine ak (bG rfl rfl Tn.u Kr (j := 4) rfl Om) ?_
   refine ag (av rfl rfl rfl Kr K1 (by rw [aj]; omega)) rfl ?_
   rintro _ VK ⟨rfl, VA, cg⟩
   have VL := F.aE cg Vw; have M4 := K2.aE cg Om; replace VA : ao VK g1 134 (fe (Fp.fx (Fp.val f % Fp.p))) := (VA.congr (gS _ 4 _)).congr (dG fun j hj => (Fp.MD h q j hj).trans (hend j hj))
   refine au 5 ?_
   refine ag (ah rfl rfl (by rw [aj]; kernel_rfl) M4 (by rw [aj, aj]) (bh _)) rfl ?_
   rintro _ _ ⟨rfl, VM, cg⟩
   have VN := VL.aE cg Vz
   refine aU ?_
   refine hret rfl VM (aj _) ?_
   exact ⟨rfl, VN⟩
end
end Go.Proofs.YtgfafidlkldeaaaGreat
