/- The field's numbers by what they are worth: Num, Add, Sub, Neg, Mul, Square, Same, Zero, Odd: what each hands back. The field's Same and Zero. -/
import Derived.Test.YtgfafidlkldeaaaGreatNt
import Derived.Test.YtgfafidlkldeaaaGreatVc7
import Derived.Test.YtgfafidlkldeaaaGreatChunkA
import Derived.Test.YtgfafidlkldeaaaGreatAu
import Derived.Lib.Mul64
import Derived.Laws.Externs
import Derived.Laws.StructEq
import Derived.ChangeKeysEq
set_option linter.unusedVariables false
set_option linter.unusedSimpArgs false
set_option maxHeartbeats 4000000
set_option maxRecDepth 4000
namespace Go.Proofs.YtgfafidlkldeaaaGreat
variable {cs ds : Array Value} {a b i j n r x : Nat} {S f g : Nat → Nat}
namespace Fp
theorem Vt : 0 < p := by unfold p; omega
theorem RS : 2 < p := by unfold p; omega
theorem Yf : Nt.lV p := Nt.UM
instance : NeZero p := ⟨by unfold p; omega⟩
abbrev F := Fin p
def of (x : Nat) : F := ⟨x % p, Nat.mod_lt _ Vt⟩
theorem Cr (a : F) : of a.val = a := Fin.ext (Nat.mod_eq_of_lt a.isLt)
theorem mL (x : Nat) : (of x).val = x % p := rfl
theorem val_add (a b : F) : (a + b).val = (a.val + b.val) % p := Fin.val_add a b
theorem val_mul (a b : F) : (a * b).val = a.val * b.val % p := Fin.val_mul a b
theorem val_sub (a b : F) : (a - b).val = (a.val + p - b.val) % p := by grind
theorem val_neg (a : F) : (-a).val = (p - a.val) % p := by rw [Fin.neg_def]
theorem val_zero : (0 : F).val = 0 := rfl
theorem val_one : (1 : F).val = 1 := rfl
theorem JO (x y : Nat) : of (x * y) = of x * of y := Fin.ext (by rw [val_mul, mL, mL, mL, Nat.mul_mod])
theorem Sm (x : Nat) : of (x % p) = of x := Fin.ext (Nat.mod_mod _ _)
theorem val_inj {a b : F} : a.val = b.val ↔ a = b := ⟨Fin.ext, fun h => by rw [h]⟩
theorem val_eq_zero {a : F} : a.val = 0 ↔ a = 0 := val_inj (b := 0)
theorem zero_or {a b : F} (h : a * b = 0) : a = 0 ∨ b = 0 := by
 have hv : a.val * b.val % p = 0 := by grind
 rcases Yf.dvd_mul (Nat.dvd_of_mod_eq_zero hv) with hd | hd
 ·left; exact val_eq_zero.1 (Nat.eq_zero_of_dvd_of_lt hd a.isLt)
 right; exact val_eq_zero.1 (Nat.eq_zero_of_dvd_of_lt hd b.isLt)
theorem cancel {a b c : F} (ha : a ≠ 0) (h : a * b = a * c) : b = c := by
 have : a * (b - c) = 0 := by grind
 rcases zero_or this with h | h
 ·grind
 grind
def pow (a : F) (e : Nat) : F := of (a.val ^ e)
theorem Fc (a : F) (e : Nat) : (pow a e).val = a.val ^ e % p := rfl
theorem pow_zero (a : F) : pow a 0 = 1 := by unfold pow; rw [Nat.pow_zero]; rfl
theorem pow_succ (a : F) (e : Nat) : pow a (e + 1) = pow a e * a := by unfold pow; rw [Nat.pow_succ, JO, Cr]
theorem pow_one (a : F) : pow a 1 = a := by rw [show (1 : Nat) = 0 + 1 from rfl, pow_succ, pow_zero]; grind
theorem pow_add (a : F) (m n : Nat) : pow a (m + n) = pow a m * pow a n := by unfold pow; rw [Nat.pow_add, JO]
theorem pow_mul (a : F) (m n : Nat) : pow a (m * n) = pow (pow a m) n := by
 induction n with
 | zero => rw [Nat.mul_zero, pow_zero, pow_zero]
 | succ n ih => rw [Nat.mul_succ, pow_add, ih, pow_succ]
theorem zero_pow (h : 0 < n) : pow 0 n = 0 := by
 obtain ⟨m, rfl⟩ : ∃ m, n = m + 1 := ⟨n - 1, Om⟩
 rw [pow_succ]; grind
theorem lr (a : F) (n : Nat) : pow a (2 * n) = pow a n * pow a n := by rw [Nat.two_mul, pow_add]
theorem yo {a : F} (h : a ≠ 0) : pow a (p - 1) = 1 := by have := Nt.GM Yf (a := a.val) (fun hd => h (val_eq_zero.1 (Nat.eq_zero_of_dvd_of_lt hd a.isLt)));exact Fin.ext this
def inv (a : F) : F := pow a (p - 2)
theorem lQ {a : F} (h : a ≠ 0) : a * inv a = 1 := by have hf := yo h;have hp := RS;rw [show p - 1 = (p - 2) + 1 by omega, pow_succ] at hf;unfold inv; grind
theorem inv_zero : inv 0 = 0 := by unfold inv; exact zero_pow (by have := RS; omega)
theorem Mb {a : F} (h : a ≠ 0) : inv a ≠ 0 := fun hc => by have h1 := lQ h;grind
theorem qY : (1 : F) ≠ 0 := fun h => by grind
theorem Cq {a b : F} (h : a * b = 1) : b = inv a := by have ha : a ≠ 0 := fun hc => qY (by grind);exact cancel ha (by rw [h, lQ ha])
def half : Nat := 28948022309329048855892746252171976963317496166410141009864396001978282409974
theorem Sb : p - 1 = 2 * half := rfl
def rX (a : F) : Prop := pow a half = 0 ∨ pow a half = 1
instance (a : F) : Decidable (rX a) := inferInstanceAs (Decidable (_ ∨ _))
theorem pow_eq_zero {a : F} (h : pow a n = 0) : a = 0 := by
  induction n with
  | zero => rw [pow_zero] at h; grind
  | succ n ih =>
    rw [pow_succ] at h
    rcases zero_or h with h | h
    · exact ih h
    exact h
theorem lP {a x : F} (h : x * x = a) : rX a := by
 by_cases hx : x = 0
 ·left;subst hx; rw [← h, show (0 : F) * 0 = 0 by grind];exact zero_pow (by unfold half; omega)
 right;rw [← h, show x * x = pow x 2 by rw [show (2 : Nat) = 2 * 1 from rfl, lr, pow_one], ← pow_mul, ← Sb];exact yo hx
def nN : Nat := 14474011154664524427946373126085988481658748083205070504932198000989141204987
theorem DF : half = 2 * nN := rfl
def e8 : Nat := 7237005577332262213973186563042994240829374041602535252466099000494570602494
theorem Sq : 2 * e8 = nN + 1 := rfl
def im : F := of 19681161376707505956807079304988542015446066515923890162744021073123829784752
theorem Ep : pow (of 2) nN = im := Fin.ext (by
 rw [Fc, show (of 2).val = 2 from rfl, ← Nt.pL p 256 2 nN (by decide +kernel)]
 decide +kernel)
theorem TI : im * im = -1 := by decide +kernel
def bU (a : F) : F := pow a e8
theorem Mw (a : F) : bU a * bU a = a * pow a nN := by unfold bU;rw [← lr, Sq, pow_succ]; grind
theorem zY {a : F} (h : rX a) : bU a * bU a = a ∨ (bU a * im) * (bU a * im) = a := by
 have hg := Mw a;have hi := TI;rcases h with h | h
 ·left;obtain rfl := pow_eq_zero h;rw [hg]; grind
 have hq : pow a nN * pow a nN = 1 := by rw [← lr, ← DF, h]
 have : (pow a nN - 1) * (pow a nN + 1) = 0 := by grind
 rcases zero_or this with hz | hz
 ·left; grind
 right; grind
theorem MG {x : F} (h : x.val % 2 = 1) : (-x).val % 2 = 0 := by
 rw [val_neg];have hp : p % 2 = 1 := by decide +kernel
 rw [show (p - x.val) % p = p - x.val from Nat.mod_eq_of_lt (Om)];omega
def root (a : F) : F := let x := if bU a * bU a = a then bU a else bU a * im; if x.val % 2 = 1 then -x else x
theorem wU {a : F} (h : rX a) : root a * root a = a := by
 have h2 := zY h;unfold root;by_cases hg : bU a * bU a = a
 ·simp only [if_pos hg]; split <;> grind
 simp only [if_neg hg];split <;> grind
theorem vO (a : F) : (root a).val % 2 = 0 := by
 have key : ∀ x : F, (if x.val % 2 = 1 then -x else x).val % 2 = 0 := fun x => by
  by_cases h : x.val % 2 = 1
  ·rw [if_pos h]; exact MG h
  grind
 exact key _
theorem vC {x y : F} (h : x * x = y * y) : x = y ∨ x = -y := by
 have : (x - y) * (x + y) = 0 := by grind
 rcases zero_or this with h | h
 ·left; grind
 right; grind
end Fp
namespace Ed
open Fp
def d : F := of 37095705934669439343138083508754565189542113879843219016388785533085940283555
theorem W6 : pow d half = -1 := Fin.ext (by
 rw [Fc, show d.val = 37095705934669439343138083508754565189542113879843219016388785533085940283555 from rfl, ← Nt.pL p 256 _ half (by decide +kernel)]
 decide +kernel)
theorem mG : (2 : F) ≠ 0 := by decide +kernel
theorem Sn : ¬ rX d := fun h => by
 have h1 := W6;rcases h with h | h
 ·rw [h] at h1; exact absurd h1 (by decide +kernel)
 rw [h] at h1; exact absurd h1 (by decide +kernel)
theorem Ni : im * im = -1 := by decide +kernel
def On (P : F × F) : Prop := P.2 * P.2 - P.1 * P.1 = 1 + d * P.1 * P.1 * P.2 * P.2
instance (P : F × F) : Decidable (On P) := inferInstanceAs (Decidable (_ = _))
def add (P Q : F × F) : F × F := ((P.1 * Q.2 + Q.1 * P.2) * inv (1 + d * P.1 * Q.1 * P.2 * Q.2), (P.2 * Q.2 + P.1 * Q.1) * inv (1 - d * P.1 * Q.1 * P.2 * Q.2))
def O : F × F := (0, 1)
def neg (P : F × F) : F × F := (-P.1, P.2)
theorem Gl {a b : F} (h : a * a = d * (b * b)) : b = 0 := by
 by_cases hb : b = 0
 ·exact hb
 exfalso;apply Sn;have hi := lQ hb;refine lP (x := a * inv b) ?_;grind
theorem U5 (e : F) : e * 0 = 0 := by grind
theorem Vo (e : F) : (1 : F) + e * 0 * 0 * 0 * 0 = 1 := by
 have h : e * 0 * 0 * 0 * 0 = 0 := by grind
 simp_all
theorem Vv : (0 : F) * 0 - 0 * 0 = 0 := by decide +kernel
theorem Yb {x y : F} (h : On (x, y)) : ¬ (x = 0 ∧ y = 0) := fun ⟨h1, h2⟩ => by subst h1; subst h2;unfold On at h;simp only at h;rw [Vo, Vv] at h;grind
theorem dp {a b : F} (ha : a ≠ 0) (hb : b ≠ 0) : a * b ≠ 0 := fun h => (zero_or h).elim ha hb
theorem FU {x1 y1 x2 y2 e : F} (h1 : On (x1, y1)) (h2 : On (x2, y2)) (he : e * e = 1) : d * x1 * x2 * y1 * y2 ≠ e := fun hc => by
 unfold On at h1 h2;simp only at h1 h2;have hi := Ni;have hen : e ≠ 0 := fun h0 => qY (by grind);have hxy : x1 * y1 ≠ 0 := fun h0 => hen (by grind)
 -- (i x1 + e' y1)^2 = - d x1^2 y1^2 (i x2 + y2)^2 , both signs
 have a1 : (im * x1 + e * y1) * (im * x1 + e * y1) = d * ((x1 * y1 * (im * x2 + y2)) * (x1 * y1 * (im * x2 + y2))) := by grind
 have a2 : (im * x1 - e * y1) * (im * x1 - e * y1) = d * ((x1 * y1 * (im * x2 - y2)) * (x1 * y1 * (im * x2 - y2))) := by grind
 have him : im ≠ 0 := fun h0 => qY (by grind);have c1 := (zero_or (Gl a1)).resolve_left hxy;have c2 := (zero_or (Gl a2)).resolve_left hxy;have hy : 2 * y2 = 0 := by grind
 have YU := (zero_or hy).resolve_left mG;grind
theorem xd {x1 y1 x2 y2 : F} (h1 : On (x1, y1)) (h2 : On (x2, y2)) : 1 + d * x1 * x2 * y1 * y2 ≠ 0 := fun h =>
 FU h1 h2 (e := -1) (by decide +kernel) (by grind)
theorem ym {x1 y1 x2 y2 : F} (h1 : On (x1, y1)) (h2 : On (x2, y2)) : 1 - d * x1 * x2 * y1 * y2 ≠ 0 := fun h =>
 FU h1 h2 (e := 1) (by decide +kernel) (by grind)
theorem SW {x1 y1 x2 y2 x3 y3 : F} (E1 : On (x1, y1)) (E2 : On (x2, y2)) (E3 : On (x3, y3)) :
  ((x1*y2+x2*y1)*(1-d*x1*x2*y1*y2)*y3 + x3*(y1*y2+x1*x2)*(1+d*x1*x2*y1*y2)) * ((1-d*x2*x3*y2*y3)*(1+d*x2*x3*y2*y3) + d*x1*y1*(x2*y3+x3*y2)*(y2*y3+x2*x3))
  = (x1*(y2*y3+x2*x3)*(1+d*x2*x3*y2*y3) + (x2*y3+x3*y2)*(1-d*x2*x3*y2*y3)*y1) * ((1-d*x1*x2*y1*y2)*(1+d*x1*x2*y1*y2) + d*x3*y3*(x1*y2+x2*y1)*(y1*y2+x1*x2)) := by
 unfold On at E1 E2 E3;grind
theorem Uk {x1 y1 x2 y2 x3 y3 : F} (E1 : On (x1, y1)) (E2 : On (x2, y2)) (E3 : On (x3, y3)) :
  ((y1*y2+x1*x2)*(1+d*x1*x2*y1*y2)*y3 + x3*(x1*y2+x2*y1)*(1-d*x1*x2*y1*y2)) * ((1-d*x2*x3*y2*y3)*(1+d*x2*x3*y2*y3) - d*x1*y1*(x2*y3+x3*y2)*(y2*y3+x2*x3))
  = (y1*(y2*y3+x2*x3)*(1+d*x2*x3*y2*y3) + (x2*y3+x3*y2)*(1-d*x2*x3*y2*y3)*x1) * ((1-d*x1*x2*y1*y2)*(1+d*x1*x2*y1*y2) - d*x3*y3*(x1*y2+x2*y1)*(y1*y2+x1*x2)) := by
 unfold On at E1 E2 E3;grind
theorem U6 {x1 y1 x2 y2 : F} (E1 : On (x1, y1)) (E2 : On (x2, y2)) :
  ((y1*y2+x1*x2)*(1+d*x1*x2*y1*y2))*((y1*y2+x1*x2)*(1+d*x1*x2*y1*y2)) - ((x1*y2+x2*y1)*(1-d*x1*x2*y1*y2))*((x1*y2+x2*y1)*(1-d*x1*x2*y1*y2))
  = ((1-d*x1*x2*y1*y2)*(1+d*x1*x2*y1*y2))*((1-d*x1*x2*y1*y2)*(1+d*x1*x2*y1*y2)) + d * ((y1*y2+x1*x2)*(y1*y2+x1*x2)) * ((x1*y2+x2*y1)*(x1*y2+x2*y1)) := by
 unfold On at E1 E2;grind
theorem oH {a b c : F} (hb : b ≠ 0) (h : a = c * b) : c = a * inv b := by have := lQ hb;grind
theorem div_mul {a b : F} (hb : b ≠ 0) : a * inv b * b = a := by have := lQ hb;grind
theorem uf {P Q : F × F} (h1 : On P) (h2 : On Q) : 1 + d * P.1 * Q.1 * P.2 * Q.2 ≠ 0 := xd (x1 := P.1) (y1 := P.2) (x2 := Q.1) (y2 := Q.2) h1 h2
theorem mq {P Q : F × F} (h1 : On P) (h2 : On Q) : 1 - d * P.1 * Q.1 * P.2 * Q.2 ≠ 0 := ym (x1 := P.1) (y1 := P.2) (x2 := Q.1) (y2 := Q.2) h1 h2
theorem tP {P Q : F × F} (h1 : On P) (h2 : On Q) : (add P Q).1 * (1 + d * P.1 * Q.1 * P.2 * Q.2) = P.1 * Q.2 + Q.1 * P.2 := div_mul (xd h1 h2)
theorem oq {P Q : F × F} (h1 : On P) (h2 : On Q) : (add P Q).2 * (1 - d * P.1 * Q.1 * P.2 * Q.2) = P.2 * Q.2 + P.1 * Q.1 := div_mul (ym h1 h2)
theorem xe {P Q : F × F} (h1 : On P) (h2 : On Q) : On (add P Q) := by
 obtain ⟨x1, y1⟩ := P;obtain ⟨x2, y2⟩ := Q;have hx := tP h1 h2;have hy := oq h1 h2;have hp := xd h1 h2;have hm := ym h1 h2;have ho := U6 h1 h2
 generalize add (x1, y1) (x2, y2) = R at *
 obtain ⟨x, y⟩ := R;simp only at hx hy;unfold On;simp only;have hpm := dp (dp hp hm) (dp hp hm);refine cancel hpm ?_
 generalize d = e at *
 generalize YU : 1 + e * x1 * x2 * y1 * y2 = s at *
 generalize YV : 1 - e * x1 * x2 * y1 * y2 = t at *
 rw [← hx, ← hy] at ho;clear hx hy hp hm YU YV hpm h1 h2;grind
theorem Vi : On O := by decide +kernel
theorem xC {P : F × F} (h : On P) : On (neg P) := by
 obtain ⟨x, y⟩ := P
 unfold On neg at *
 grind
theorem add_comm (P Q : F × F) : add P Q = add Q P := by obtain ⟨x1, y1⟩ := P;obtain ⟨x2, y2⟩ := Q;unfold add;grind
theorem inv_one : inv (1 : F) = 1 := (Cq (a := 1) (b := 1) (by decide +kernel)).symm
theorem Fk (P : F × F) : add P O = P := by
 obtain ⟨x, y⟩ := P;unfold add O;simp only;have e1 : x * 1 + 0 * y = x := by grind
 have e2 : y * 1 + x * 0 = y := by grind
 have e3 : d * x * 0 * y * 1 = 0 := by grind
 have e4 : (1 : F) + 0 = 1 := by decide +kernel
 have e5 : (1 : F) - 0 = 1 := by decide +kernel
 rw [e1, e2, e3, e4, e5, inv_one];clear e1 e2 e3 e4 e5;grind
theorem add_neg {P : F × F} (h : On P) : add P (neg P) = O := by
 have hn := xC h;have hx := tP h hn;have hy := oq h hn;have hp := xd (x1 := P.1) (y1 := P.2) (x2 := (neg P).1) (y2 := (neg P).2) h hn;have hm := ym (x1 := P.1) (y1 := P.2) (x2 := (neg P).1) (y2 := (neg P).2) h hn;refine Prod.ext ?_ ?_
 ·refine cancel hp ?_
  unfold neg O at *
  grind
 refine cancel hm ?_
 unfold neg O On at *
 grind
theorem Gp {A B n m u r : F} (hA : A ≠ 0) (hB : B ≠ 0) (hu : u * A = n) (hr : r * B = m) (key : n * B = m * A) : u = r := by refine cancel (dp hA hB) ?_;grind
theorem add_assoc {P Q R : F × F} (h1 : On P) (h2 : On Q) (h3 : On R) : add (add P Q) R = add P (add Q R) := by
 have YU := xe h1 h2;have YV := xe h2 h3;have YW := tP h1 h2;have YX := oq h1 h2;have YY := tP h2 h3;have YZ := oq h2 h3;have xl := tP YU h3;have yl := oq YU h3;have xr := tP h1 YV;have yr := oq h1 YV;have pl := uf YU h3;have ml := mq YU h3;have pr := uf h1 YV;have mr := mq h1 YV;have Y0 := uf h1 h2;have Y2 := mq h1 h2;have Y3 := uf h2 h3;have Za := mq h2 h3;have ax := SW h1 h2 h3;have ay := Uk h1 h2 h3
 generalize add (add P Q) R = L at *
 generalize add P (add Q R) = M at *
 generalize add P Q = S at *
 generalize add Q R = T at *
 obtain ⟨x1, y1⟩ := P; obtain ⟨x2, y2⟩ := Q; obtain ⟨x3, y3⟩ := R; obtain ⟨a, b⟩ := S; obtain ⟨f, g⟩ := T; obtain ⟨u, v⟩ := L; obtain ⟨r, s⟩ := M
 simp only at *
 clear h1 h2 h3 YU YV;have hne := dp (dp Y0 Y2) (dp Y3 Za)
 generalize d = e at *
 refine Prod.ext ?_ ?_
 ·show u = r;refine Gp pl pr xl xr (cancel hne ?_);rw [← YW, ← YX, ← YY, ← YZ] at ax;clear xl yl xr yr pl ml pr mr ay YW YX YY YZ hne Y0 Y2 Y3 Za;grind
 show v = s;refine Gp ml mr yl yr (cancel hne ?_);rw [← YW, ← YX, ← YY, ← YZ] at ay;clear xl yl xr yr pl ml pr mr ax YW YX YY YZ hne Y0 Y2 Y3 Za;grind
theorem wI (P : F × F) : add O P = P := by rw [add_comm, Fk]
theorem neg_neg (P : F × F) : neg (neg P) = P := by obtain ⟨x, y⟩ := P;unfold neg;grind
def mul : Nat → F × F → F × F
 | 0, _ => O
 | n + 1, P => add (mul n P) P
theorem eR {P : F × F} (h : On P) : ∀ n, On (mul n P)
 | 0 => Vi
 | n + 1 => xe (eR h n) h
theorem mul_one (P : F × F) : mul 1 P = P := wI P
theorem mul_add {P : F × F} (h : On P) (m : Nat) : ∀ n, mul (m + n) P = add (mul m P) (mul n P)
  | 0 => (Fk _).symm
  | n + 1 => by show add (mul (m + n) P) P = add (mul m P) (add (mul n P) P);rw [mul_add h m n, add_assoc (eR h m) (eR h n) h]
theorem mul_two {P : F × F} (h : On P) (n : Nat) : mul (2 * n) P = add (mul n P) (mul n P) := by rw [Nat.two_mul, mul_add h]
theorem FD : ∀ n, mul n O = O
 | 0 => rfl
 | n + 1 => by show add (mul n O) O = O; rw [FD n, Fk]
theorem jg {P : F × F} (h : On P) (m : Nat) : ∀ n, mul (m * n) P = mul n (mul m P)
  | 0 => rfl
  | n + 1 => by show mul (m * n + m) P = add (mul n (mul m P)) (mul m P);rw [mul_add h, jg h m n]
theorem mul_mod {P : F × F} (h : On P) {L : Nat} (hL : mul L P = O) (n : Nat) : mul (n % L) P = mul n P := by
 have e := Nat.div_add_mod n L
 have : mul n P = mul (n % L) P := by rw [← e, mul_add h, jg h, hL, FD, wI, e]
 exact this.symm
/-! Points by quotients. -/
structure Q4 where
 (x y z t : F)
def pG (q : Q4) (P : F × F) : Prop := q.z ≠ 0 ∧ q.x = P.1 * q.z ∧ q.y = P.2 * q.z ∧ q.t * q.z = q.x * q.y
def AO (p q : Q4) : Q4 :=
 let a := (p.y - p.x) * (q.y - q.x)
 let b := (p.y + p.x) * (q.y + q.x)
 let c := p.t * (d + d) * q.t
 let e := (p.z + p.z) * q.z
 ⟨(b - a) * (e - c), (e + c) * (b + a), (e - c) * (e + c), (b - a) * (b + a)⟩
theorem Rp {q : Q4} {P : F × F} (h : pG q P) : q.t = P.1 * P.2 * q.z := by obtain ⟨h1, h2, h3, h4⟩ := h;refine cancel h1 ?_;grind
theorem xw {p q : Q4} {P Q : F × F} (h : pG p P) (k : pG q Q) (hP : On P) (hQ : On Q) : pG (AO p q) (add P Q) := by
 have ht := Rp h;have kt := Rp k;have hx := tP hP hQ;have hy := oq hP hQ;have pp := uf hP hQ;have pm := mq hP hQ;obtain ⟨h1, h2, h3, _⟩ := h;obtain ⟨k1, k2, k3, _⟩ := k
 generalize add P Q = R at *
 obtain ⟨x1, y1⟩ := P; obtain ⟨x2, y2⟩ := Q; obtain ⟨x, y⟩ := R;obtain ⟨a, b, z1, t1⟩ := p; obtain ⟨e, f, z2, t2⟩ := q
 simp only at *
 clear hP hQ;subst h2 h3 k2 k3 ht kt;unfold AO pG;simp only
 generalize d = D at *
 have eF : (y1 * z1 + x1 * z1) * (y2 * z2 + x2 * z2) - (y1 * z1 - x1 * z1) * (y2 * z2 - x2 * z2) = 2 * (z1 * z2) * (x1 * y2 + x2 * y1) := by grind
 have eI : (y1 * z1 + x1 * z1) * (y2 * z2 + x2 * z2) + (y1 * z1 - x1 * z1) * (y2 * z2 - x2 * z2) = 2 * (z1 * z2) * (y1 * y2 + x1 * x2) := by grind
 have eG : (z1 + z1) * z2 - x1 * y1 * z1 * (D + D) * (x2 * y2 * z2) = 2 * (z1 * z2) * (1 - D * x1 * x2 * y1 * y2) := by grind
 have eH : (z1 + z1) * z2 + x1 * y1 * z1 * (D + D) * (x2 * y2 * z2) = 2 * (z1 * z2) * (1 + D * x1 * x2 * y1 * y2) := by grind
 rw [eF, eI, eG, eH, ← hx, ← hy];have hz := dp mG (dp h1 k1);clear hx hy eF eI eG eH
 generalize 1 + D * x1 * x2 * y1 * y2 = A at *
 generalize 1 - D * x1 * x2 * y1 * y2 = B at *
 generalize 2 * (z1 * z2) = Z at *
 refine ⟨dp (dp hz pm) (dp hz pp), ?_, ?_, ?_⟩
 ·grind
 ·grind
 grind
def qO : Q4 := ⟨0, 1, 1, 0⟩
theorem Q9 : pG qO O := ⟨qY, by decide +kernel, by decide +kernel, by decide +kernel⟩
def Sa (P : F × F) : Q4 := ⟨P.1, P.2, 1, P.1 * P.2⟩
theorem De (P : F × F) : pG (Sa P) P := by unfold Sa pG;grind
theorem BH {p q : Q4} {P Q : F × F} (h : pG p P) (k : pG q Q) : (p.x * q.z = q.x * p.z ∧ p.y * q.z = q.y * p.z) ↔ P = Q := by
 obtain ⟨h1, h2, h3, _⟩ := h;obtain ⟨k1, k2, k3, _⟩ := k;obtain ⟨x1, y1⟩ := P; obtain ⟨x2, y2⟩ := Q
 simp only at *
 rw [h2, h3, k2, k3];have hz := dp h1 k1
 generalize p.z = z at *
 generalize q.z = u at *
 clear h2 h3 k2 k3;constructor
 ·rintro ⟨_, _⟩;refine Prod.ext (cancel hz ?_) (cancel hz ?_)
  ·grind
  grind
 grind
def sV (p : Q4) (n : Nat) : Nat → Q4
 | 0 => qO
 | j + 1 => let o := AO (sV p n j) (sV p n j); if n / 2 ^ (252 - j) % 2 = 1 then AO o p else o
theorem xb {p : Q4} {P : F × F} (h : pG p P) (hP : On P) (n : Nat) (hn : n < 2 ^ 253) : ∀ j, j ≤ 253 → pG (sV p n j) (mul (n / 2 ^ (253 - j)) P)
  | 0, _ => by rw [Nat.sub_zero, Nat.div_eq_of_lt hn]; exact Q9
  | j + 1, hj => by
    have ih := xb h hP n hn j (Om);have hm := eR hP (n / 2 ^ (253 - j));have h2 := xw ih ih hm hm;rw [← mul_two hP] at h2;have e : n / 2 ^ (253 - j) = n / 2 ^ (252 - j) / 2 := by rw [Nat.div_div_eq_div_mul, ← Nat.pow_succ, show (252 - j).succ = 253 - j from Om]
    rw [show 253 - (j + 1) = 252 - j from Om];show pG (if n / 2 ^ (252 - j) % 2 = 1 then AO (AO (sV p n j) (sV p n j)) p else AO (sV p n j) (sV p n j)) _;by_cases hb : n / 2 ^ (252 - j) % 2 = 1
    · rw [if_pos hb]
      have h3 := xw h2 h (eR hP _) hP;rw [show n / 2 ^ (252 - j) = 2 * (n / 2 ^ (253 - j)) + 1 from Om];exact h3
    rw [if_neg hb, show n / 2 ^ (252 - j) = 2 * (n / 2 ^ (253 - j)) from Om];exact h2
def L : Nat := 7237005577332262213973186563042994240857116359379907606001950938285454250989
def B : F × F := (of 15112221349535400772501151409588531511454012693041857206046113283949847762202, of 46316835694926478169428394003475163141307993866256225615783033603165251855960)
theorem iH : On B := by decide +kernel
theorem yx : (sV (Sa B) L 253).x = 0 ∧ (sV (Sa B) L 253).y = (sV (Sa B) L 253).z := by decide +kernel
theorem sR : L < 2 ^ 253 := by decide +kernel
theorem uE : mul L B = O := by have h := xb (De B) iH L sR 253 (Nat.le_refl _);rw [Nat.sub_self, Nat.pow_zero, Nat.div_one] at h;refine ((BH h Q9).1 ?_);obtain ⟨h1, h2⟩ := yx;rw [h1, h2];unfold qO;grind
end Ed
section
open Go.RowKit Tryz
attribute [local irreducible] Y Ef WL WC WK WQ WM cu
def fe (f : Nat → Nat) : Array Value := aM .u64 (Fp.fn 5 f)
theorem aj (f : Nat → Nat) : (fe f).size = 5 := by rw [fe, bf, Fp.eE]
theorem dV (f : Nat → Nat) (hi : i = j) (h : j < 5) : (fe f)[i]? = some (.int .u64 (f j : Nat)) := by subst hi; rw [fe, dQ _ _ _ (by rw [Fp.eE]; exact h), Fp.sQ f h]
theorem jz (f : Nat → Nat) (i x : Nat) : (fe f).setIfInBounds i (.int .u64 (x : Int)) = fe (fun j => if j = i then x else f j) := by rw [fe, gu, Fp.Dn, fe]
theorem bg (f : Nat → Nat) : (fe f).all (·.oneCell') = true := cZ _ _
theorem dX (h : ∀ j, j < 5 → f j = g j) : fe f = fe g := by unfold fe; rw [Fp.pX h]
theorem wv (x : Nat) (_ : x < 18446744073709551616) : (x : Int) / 2 ^ (min (51 : Int).toNat IntKind.u64.bits) = ((x / 2251799813685248 : Nat) : Int) := by rw [show (2 : Int) ^ (min (51 : Int).toNat IntKind.u64.bits) = ((2251799813685248 : Nat) : Int) from rfl];exact (Int.natCast_ediv _ _).symm
theorem mR (x : Nat) (hx : x < 18446744073709551616) : bits .and .u64 (x : Int) 2251799813685247 = ((x % 2251799813685248 : Nat) : Int) := by have h := (cz (p := x) (q := 2251799813685247) hx Om).1;rw [show ((2251799813685247 : Int)) = ((2251799813685247 : Nat) : Int) from rfl, h, show (2251799813685247 : Nat) = 2 ^ 51 - 1 from rfl, Nat.and_two_pow_sub_one_eq_mod]
theorem kO (f : Nat → Nat) (w : aa9) (hf : ∀ j, j < 5 → f j < 18446744073709551616) :
  Ct 202 #[.agg (fe f)] w (ck w (.agg (fe (Fp.carry f)))) := by
 refine aH (s := 5) 46 func202 rfl rfl rfl underlying134 rfl Kr rfl ?_;intro _ aa4;refine aU ?_;intro w1 g1 (B1 : aq _ _ _ (fe f)) Zj ex;have E1 := ex;refine aU ?_;intro w2 g2 (B2 : aq _ _ _ (fe (fun _ => 0))) YZ ex;have E2 := E1.ext ex; have YX := B1.ext ex;refine au 4 ?_;refine ak (aA rfl (cells := fe (fun _ => 0)) Kr) ?_;refine aU ?_;intro w3 g3 (B3 : aq _ _ _ (fe (fun _ => 0))) Y0 ex;have E3 := E2.ext ex; have Y2 := YX.ext ex; have YU : w.heap.size ≤ g3 := Nat.le_trans E2.size Y0; have Y3 := B2.ext ex;refine af (ag rfl rfl Kr B3 rfl (bg _)) rfl ?_;rintro _ w4 ⟨rfl, B4, cg⟩;have E4 := E3.aw cg YU; have Zk := YX.lt; have Zl := B2.lt; have Za := Y2.aw cg Om; have Zb := Y3.aw cg Om; replace B4 : aq w4 g3 132 (fe (fun _ => 0)) := B4;refine aU ?_;refine aE (fun n' L wr => ∃ i : Nat, L = [(1, .pointer (cf g1)), (2, .pointer (cf g2)), (3, .pointer (cf g3)), (12, .agg (fe f)), (13, .int .i64 (i : Int))] ∧ n' = 5 - i ∧ (i ≤ 5 ∧ Ext w wr ∧ aq wr g1 134 (fe f) ∧ aq wr g2 134 (fe (fun _ => 0)) ∧ aq wr g3 132 (fe (fun j => if j < i then f j / 2251799813685248 else 0)))) _ _ ⟨0, rfl, rfl, Om, E4, Za, Zb, B4⟩ Ls ?_;rintro _ n' L wr ⟨i, rfl, rfl, _, F, C1, C2, C3⟩ Zc;refine aa1 (fun Zd => ?_) (fun Zd => ?_)
 ·refine au 7 ?_;refine ak (pJ rfl rfl Tn.u Tn.u rfl Kr rfl Om (dV f rfl Om)) ?_;refine au 7 ?_;refine ak (cn rfl rfl Om (wv _ (hf i Om))) ?_;refine au 1 ?_;refine af (az rfl rfl rfl Kr C3 (by rw [aj]; omega)) rfl ?_;rintro _ _ ⟨rfl, B5, cg⟩;rw [Nat.zero_add, jz] at B5; have F5 := F.aw cg YU; have D1 := C1.aw cg Om; have D2 := C2.aw cg Om;refine au 7 ?_;refine ae ?_;refine Zc _ _ ⟨i + 1, rfl, rfl, Om, F5, D1, D2, B5.congr (dX fun j hj => by split <;> split <;> (try split) <;> (first | omega | rfl | (exfalso; omega) | (subst_vars; rfl)))⟩ Om Ls
 refine aU ?_;intro w6 g6 (B6 : aq _ _ _ (fe (fun _ => 0))) Ze ex;have E6 := F.ext ex; have D1 := C1.ext ex; have D2 := C2.ext ex; have D3 := C3.ext ex; have YV : w.heap.size ≤ g6 := Nat.le_trans F.size Ze; have Zm := C3.lt; have Zf := C2.lt;refine aU ?_;refine aE (fun n' L wq => ∃ k : Nat, L = [(2, .pointer (cf g2)), (3, .pointer (cf g3)), (6, .pointer (cf g6)), (23, .agg (fe f)), (24, .int .i64 (k : Int))] ∧ n' = 5 - k ∧ (k ≤ 5 ∧ Ext w wq ∧ aq wq g2 134 (fe (fun _ => 0)) ∧ aq wq g3 132 (fe (fun j => if j < i then f j / 2251799813685248 else 0)) ∧ aq wq g6 134 (fe (fun j => if j < k then Fp.carry f j else 0)))) _ _ ⟨0, rfl, rfl, Om, E6, D2, D3, B6⟩ Ls ?_;rintro _ n' L wq ⟨k, rfl, rfl, _, G, K2, K3, K6⟩ YY;refine aa1 (fun Zg => ?_) (fun Zg => ?_)
 ·refine au 7 ?_;refine ak (pJ rfl rfl Tn.u Tn.u rfl Kr rfl Om (dV f rfl Om)) ?_;refine au 7 ?_;refine ak (aO rfl rfl (bk (n := k + 4) Om Om)) ?_;refine ak (cR rfl rfl Om (show (((k + 4 : Nat) : Int).tmod 5 = (((k + 4) % 5 : Nat) : Int)) from rfl)) ?_;refine au 1 ?_;refine ak (ah rfl Tn.u rfl (K3.get (dV _ (by rw [Nat.zero_add]) Om))) ?_;refine au 2 ?_
  obtain ⟨c, hc⟩ : ∃ c, c = (if (k + 4) % 5 < i then f ((k + 4) % 5) / 2251799813685248 else 0) := ⟨_, rfl⟩
  rw [← hc];have hcl : c < 8192 := by rw [hc]; have := hf ((k + 4) % 5) Om; split <;> omega
  have hkl := hf k Om;refine aa1 (fun Zh => ?_) (fun Zh => ?_)
  ·refine au 2 ?_;refine ak (cS rfl rfl (aG (n := c * 19) Om Om)) ?_;refine au 6 ?_;refine ak (cT rfl rfl (mR _ (hf k Om))) ?_;refine au 1 ?_;refine ak (aO rfl rfl (aG (n := f k % 2251799813685248 + c * 19) Om Om)) ?_;refine au 2 ?_;refine af (az rfl rfl rfl Kr K6 (by rw [aj]; omega)) rfl ?_;rintro _ w7 ⟨rfl, B7, cg⟩;rw [Nat.zero_add, jz] at B7; have G7 := G.aw cg YV; have L2 := K2.aw cg Om; have L3 := K3.aw cg Om;refine au 7 ?_;refine ae ?_
   refine YY _ _ ⟨k + 1, rfl, rfl, Om, G7, L2, L3, B7.congr (dX fun j hj => by
    have Zi : k = 0 := Om
    subst Zi;by_cases YW : j = 0
    ·subst YW; rw [if_pos rfl, if_pos Om, hc, if_pos Om]; rfl
    rw [if_neg YW, if_neg Om, if_neg Om])⟩ Om Ls
  refine au 5 ?_;refine ak (cT rfl rfl (mR _ (hf k Om))) ?_;refine au 1 ?_;refine ak (aO rfl rfl (aG (n := f k % 2251799813685248 + c) Om Om)) ?_;refine au 2 ?_;refine af (az rfl rfl rfl Kr K6 (by rw [aj]; omega)) rfl ?_;rintro _ w7 ⟨rfl, B7, cg⟩;rw [Nat.zero_add, jz] at B7; have G7 := G.aw cg YV; have L2 := K2.aw cg Om; have L3 := K3.aw cg Om;refine au 7 ?_;refine ae ?_
  refine YY _ _ ⟨k + 1, rfl, rfl, Om, G7, L2, L3, B7.congr (dX fun j hj => by
   by_cases YW : j = k
   ·subst YW; rw [if_pos rfl, if_pos Om, hc, if_pos Om, Fp.carry, if_neg Om, show (j + 4) % 5 = j - 1 by omega]
   rw [if_neg YW]; by_cases h2 : j < k
   ·rw [if_pos h2, if_pos Om]
   rw [if_neg h2, if_neg Om])⟩ Om Ls
 refine au 8 ?_;refine af (ag rfl rfl (by rw [aj]; kernel_rfl) K2 (by rw [aj, aj]) (bg _)) rfl ?_;rintro _ _ ⟨rfl, B8, cg⟩;have G8 := G.aw cg (Nat.le_trans E1.size YZ);refine aU ?_;exact aa4 rfl B8 (aj _) ⟨by rw [dX (g := Fp.carry f) fun j hj => by rw [if_pos Om]], G8⟩
theorem nh (f : Nat → Nat) (w : aa9) (hf : Fp.small f) :
  Ct 209 #[.agg (fe f)] w (ck w (.agg (fe (Fp.gn (Fp.val f % Fp.p))))) := by
 obtain ⟨h, hh⟩ : ∃ h, h = Fp.carry (Fp.carry f) := ⟨_, rfl⟩
 have hs := Fp.iJ (f := f) (fun j hj => by have := hf j hj; omega);have hb : ∀ j, j < 5 → h j < 2251799813685248 + 19 := fun j hj => by rw [hh]; exact Fp.vw hs j hj
 have YW : ∀ j, j < 5 → h j < 4503599627370496 := fun j hj => by have := hb j hj; omega
 have hend : ∀ j, j < 5 → (h j + Fp.rc h (Fp.qc h 5) j) % 2251799813685248 = Fp.gn (Fp.val f % Fp.p) j := fun j hj => Fp.Lg hf hh j hj;refine aH (s := 5) 64 func209 rfl rfl rfl underlying134 rfl Kr rfl ?_;intro _ aa4;refine aU ?_;intro w1 g1 (B1 : aq _ _ _ (fe f)) YU ex;have E1 := ex; have Zj := B1.lt;refine aU ?_;intro w2 g2 (B2 : aq _ _ _ (fe (fun _ => 0))) YZ ex;have E2 := E1.ext ex; have Y0 := B1.ext ex; have YX : w.heap.size ≤ g2 := Nat.le_trans E1.size YZ;refine aU ?_;refine aB func202 rfl (kO f _ (fun j hj => by have := hf j hj; omega)) ?_;rintro e _ ⟨rfl, ex⟩;refine aU ?_;have E3 := E2.ext ex; have C1 := Y0.ext ex; have C2 := B2.ext ex;refine aB func202 rfl (kO _ _ (fun j hj => by have := hs j hj; omega)) ?_;rintro e _ ⟨rfl, ex⟩;refine au 1 ?_;rw [← hh]; have E4 := E3.ext ex; have D1 := C1.ext ex; have D2 := C2.ext ex;refine af (ag rfl rfl (by rw [aj]; kernel_rfl) D1 (by rw [aj, aj]) (bg _)) rfl ?_;rintro _ w5 ⟨rfl, B5, cg⟩;have E5 := E4.aw cg YU; have D5 := D2.aw cg Om;refine au 5 ?_;refine ak (bM rfl rfl Tn.u Kr (j := 0) rfl Om) ?_;refine ak (ah rfl Tn.u rfl (B5.get (dV h (j := 0) rfl Om))) ?_;refine ak (aO rfl rfl (aG (n := h 0 + 19) Om (by have := hb 0 Om; omega))) ?_;refine ak (cn rfl rfl Om (wv _ (by have := hb 0 Om; omega))) ?_;refine aU ?_;refine aE (fun n' L wr => ∃ i : Nat, L = [(1, .pointer (cf g1)), (2, .pointer (cf g2)), (3, .int .u64 ((Fp.qc h i : Nat) : Int)), (4, .int .i64 (i : Int))] ∧ n' = 5 - i ∧ (i ≤ 5 ∧ wr = w5)) _ _ ⟨1, rfl, rfl, Om, rfl⟩ Ls ?_;rintro _ n' L wr ⟨i, rfl, rfl, _, hw⟩ Y2;refine aa1 (fun Y3 => ?_) (fun Y3 => ?_)
 ·have hq := Fp.RF YW i Om;have hbi := hb i Om;refine au 8 ?_;refine ak (ah rfl Tn.u rfl ((hw ▸ B5 : aq wr g1 134 (fe h)).get (dV h (by rw [Nat.zero_add]) Om))) ?_;refine au 1 ?_;refine ak (aO rfl rfl (aG (n := h i + Fp.qc h i) Om Om)) ?_;refine ak (cn rfl rfl Om (wv _ Om)) ?_;refine au 9 ?_;refine ae ?_;refine Y2 _ _ ⟨i + 1, rfl, rfl, Om, hw⟩ Om Ls
 refine au 6 ?_;obtain rfl : i = 5 := Om
 subst hw
 obtain ⟨q, hq⟩ : ∃ q, q = Fp.qc h 5 := ⟨_, rfl⟩
 have YV : q ≤ 19 := by rw [hq]; exact Fp.RF YW 5 Om
 rw [← hq] at hend ⊢;have Zk := hb 0 Om;refine au 2 ?_;refine ak (bM rfl rfl Tn.u Kr (j := 0) rfl Om) ?_;refine ak (ah rfl Tn.u rfl (B5.get (dV h (j := 0) rfl Om))) ?_;refine au 1 ?_;refine ak (cS rfl rfl (aG (n := 19 * q) Om Om)) ?_;refine ak (aO rfl rfl (aG (n := h 0 + 19 * q) Om Om)) ?_;refine au 1 ?_;refine ak (bM rfl rfl Tn.u Kr (j := 0) rfl Om) ?_;refine af (az rfl rfl rfl Kr B5 (by rw [aj]; omega)) rfl ?_;rintro _ w7 ⟨rfl, B7, cg⟩;have E7 := E5.aw cg YU; have D7 := D5.aw cg Om; replace B7 : aq w7 g1 134 (fe (Fp.st h q 0)) := (B7.congr (jz h 0 _)).congr (dX fun j _ => Fp.PF h q j);refine aU ?_;refine aE (fun n' L wq => ∃ k : Nat, L = [(1, .pointer (cf g1)), (2, .pointer (cf g2)), (33, .int .i64 (k : Int))] ∧ n' = 4 - k ∧ (k ≤ 4 ∧ Ext w wq ∧ aq wq g1 134 (fe (Fp.st h q k)) ∧ aq wq g2 134 (fe (fun _ => 0)))) _ _ ⟨0, rfl, rfl, Om, E7, B7, D7⟩ Ls ?_;rintro _ n' L wq ⟨k, rfl, rfl, _, F, K1, K2⟩ Za;refine aa1 (fun Zb => ?_) (fun Zb => ?_)
 ·refine aU ?_;have hrc := Fp.Rx YV YW k Om;have hbk := hb k Om; have Zc := hb (k + 1) Om;refine aD Kr 14 rfl ?_; intro Zd ex Ze;have F6 := F.ext ex; have L1 := K1.ext ex; have L2 := K2.ext ex;refine zm [0, 1, 2] ?_;refine dF 3 rfl (fun _ => bM rfl rfl Tn.u Kr (j := k + 1) Om Om) ?_;refine my 4 rfl (ah rfl Tn.u rfl (L1.get (v := .int .u64 ((h (k + 1) : Nat) : Int)) (by rw [Nat.zero_add, dV _ rfl Om, Fp.Ok]))) ?_;refine zm [5, 6, 7] ?_;refine my 8 rfl (ah rfl Tn.u rfl (L1.get (v := .int .u64 ((h k + Fp.rc h q k : Nat) : Int)) (by rw [Nat.zero_add, dV _ rfl Om, Fp.Kw]))) ?_;refine dF 9 rfl (fun _ => cn rfl rfl Om (wv _ Om)) ?_;refine dF 10 rfl (fun _ => aO rfl rfl (aG (n := h (k + 1) + (h k + Fp.rc h q k) / 2251799813685248) Om Om)) ?_;refine zm [11] ?_;refine dF 12 rfl (fun _ => bM rfl rfl Tn.u Kr (j := k + 1) Om Om) ?_;refine aR 13 Kr ?_; refine bE rfl (az rfl rfl rfl Kr L1 (by rw [aj]; omega)) rfl ?_;rintro _ _ ⟨rfl, B8, cg⟩;refine ⟨.inl rfl, ?_⟩;rw [Nat.zero_add, jz] at B8; have F8 := F6.aw cg YU; have M2 := L2.aw cg Om;refine au 7 ?_;refine ak (ah rfl Tn.u rfl (B8.get (v := .int .u64 ((h k + Fp.rc h q k : Nat) : Int)) (by rw [Nat.zero_add, dV _ rfl Om, if_neg Om, Fp.Kw]))) ?_;refine ak (cT rfl rfl (mR _ Om)) ?_;refine au 2 ?_;refine af (az rfl rfl rfl Kr B8 (by rw [aj]; omega)) rfl ?_;rintro _ _ ⟨rfl, B9, cg⟩;rw [Nat.zero_add, jz] at B9; have F9 := F8.aw cg YU; have M3 := M2.aw cg Om;refine au 7 ?_;refine ae ?_;refine Za _ _ ⟨k + 1, rfl, rfl, Om, F9, B9.congr (dX fun j _ => Fp.QJ h q k j), M3⟩ Om Ls
 obtain rfl : k = 4 := Om
 have hrc := Fp.Rx YV YW 4 Om;have Zl := hb 4 Om;refine au 8 ?_;refine ak (bM rfl rfl Tn.u Kr (j := 4) rfl Om) ?_;refine ak (ah rfl Tn.u rfl (K1.get (v := .int .u64 ((h 4 + Fp.rc h q 4 : Nat) : Int)) (by rw [Nat.zero_add, dV _ rfl Om, Fp.Kw]))) ?_;refine ak (cT rfl rfl (mR _ Om)) ?_;refine au 1 ?_;refine ak (bM rfl rfl Tn.u Kr (j := 4) rfl Om) ?_;refine af (az rfl rfl rfl Kr K1 (by rw [aj]; omega)) rfl ?_;rintro _ Zf ⟨rfl, YY, cg⟩;have Zg := F.aw cg YU; have M4 := K2.aw cg Om; replace YY : aq Zf g1 134 (fe (Fp.gn (Fp.val f % Fp.p))) := (YY.congr (jz _ 4 _)).congr (dX fun j hj => (Fp.TB h q j hj).trans (hend j hj));refine au 5 ?_;refine af (ag rfl rfl (by rw [aj]; kernel_rfl) M4 (by rw [aj, aj]) (bg _)) rfl ?_;rintro _ _ ⟨rfl, Zh, cg⟩;have Zi := Zg.aw cg YX;refine aU ?_;exact aa4 rfl Zh (aj _) ⟨rfl, Zi⟩
theorem JE (x : Nat) (hx : x < 18446744073709551616) : bits .and .u64 (x : Int) 4294967295 = ((x % 4294967296 : Nat) : Int) := by have h := (cz (p := x) (q := 4294967295) hx Om).1;rw [show ((4294967295 : Int)) = ((4294967295 : Nat) : Int) from rfl, h, show (4294967295 : Nat) = 2 ^ 32 - 1 from rfl, Nat.and_two_pow_sub_one_eq_mod]
theorem zC (x : Nat) : (x : Int) / 2 ^ (min (32 : Int).toNat IntKind.u64.bits) = ((x / 4294967296 : Nat) : Int) := by rw [show (2 : Int) ^ (min (32 : Int).toNat IntKind.u64.bits) = ((4294967296 : Nat) : Int) from rfl];exact (Int.natCast_ediv _ _).symm
theorem qH (x y : Nat) (w : aa9) (hx : x < 18446744073709551616) (hy : y < 18446744073709551616) :
  Ct 237 #[.int .u64 (x : Int), .int .u64 (y : Int)] w (ck w (.tuple #[.int .u64 ((x * y / 18446744073709551616 : Nat) : Int), .int .u64 ((x * y % 18446744073709551616 : Nat) : Int)])) := by
 obtain ⟨h1, h2, h3, h4⟩ := Lib.mul64_hi x y hx hy
 obtain ⟨xl, hxl⟩ : ∃ a, a = x % 4294967296 := ⟨_, rfl⟩
 obtain ⟨xh, hxh⟩ : ∃ a, a = x / 4294967296 := ⟨_, rfl⟩
 obtain ⟨yl, hyl⟩ : ∃ a, a = y % 4294967296 := ⟨_, rfl⟩
 obtain ⟨yh, hyh⟩ : ∃ a, a = y / 4294967296 := ⟨_, rfl⟩
 rw [← hxl, ← hyl] at h1;rw [← hxl, ← hxh, ← hyl] at h2;rw [← hxl, ← hxh, ← hyl, ← hyh] at h3 h4;have hb := Lib.half_mul_le (a := xh) (b := yl) Om Om;have hc := Lib.half_mul_le (a := xl) (b := yh) Om Om;have hd := Lib.half_mul_le (a := xh) (b := yh) Om Om;have hlt : x * y / 18446744073709551616 < 18446744073709551616 := Nat.div_lt_of_lt_mul (Nat.mul_lt_mul'' hx hy)
 obtain ⟨w0, YU⟩ : ∃ a, a = xl * yl := ⟨_, rfl⟩
 obtain ⟨b0, YV⟩ : ∃ a, a = xh * yl := ⟨_, rfl⟩
 obtain ⟨c0, YW⟩ : ∃ a, a = xl * yh := ⟨_, rfl⟩
 obtain ⟨d0, YX⟩ : ∃ a, a = xh * yh := ⟨_, rfl⟩
 rw [← YU, ← YV, ← YW, ← YX] at h4;rw [← YU] at h1;rw [← YU, ← YV] at h2;rw [← YU, ← YV, ← YW] at h3;rw [← YV] at hb;rw [← YW] at hc;rw [← YX] at hd;refine aZ 51 func237 ?_;intro _ aa4;refine au 9 ?_;refine ak (cT rfl rfl (show bits .and .u64 (x : Int) 4294967295 = (xl : Int) by rw [hxl]; exact JE x hx)) ?_;refine au 6 ?_;refine ak (cn rfl rfl Om (show (x : Int) / 2 ^ (min (32 : Int).toNat IntKind.u64.bits) = (xh : Int) by rw [hxh]; exact zC x)) ?_;refine au 6 ?_;refine ak (cT rfl rfl (show bits .and .u64 (y : Int) 4294967295 = (yl : Int) by rw [hyl]; exact JE y hy)) ?_;refine au 6 ?_;refine ak (cn rfl rfl Om (show (y : Int) / 2 ^ (min (32 : Int).toNat IntKind.u64.bits) = (yh : Int) by rw [hyh]; exact zC y)) ?_;refine au 7 ?_;refine ak (cS rfl rfl (aG (n := w0) (by rw [YU]; exact (Int.natCast_mul _ _).symm) h1)) ?_;refine au 7 ?_;refine ak (cS rfl rfl (aG (n := b0) (by rw [YV]; exact (Int.natCast_mul _ _).symm) Om)) ?_;refine au 1 ?_;refine ak (cn rfl rfl Om (zC _)) ?_;refine ak (aO rfl rfl (aG (n := b0 + w0 / 4294967296) Om h2)) ?_;refine au 6 ?_;refine ak (cT rfl rfl (JE _ h2)) ?_;refine au 6 ?_;refine ak (cn rfl rfl Om (zC _)) ?_;refine au 8 ?_;refine ak (cS rfl rfl (aG (n := c0) (by rw [YW]; exact (Int.natCast_mul _ _).symm) Om)) ?_;refine ak (aO rfl rfl (aG (n := (b0 + w0 / 4294967296) % 4294967296 + c0) Om h3)) ?_;refine au 7 ?_;refine ak (cS rfl rfl (aG (n := d0) (by rw [YX]; exact (Int.natCast_mul _ _).symm) Om)) ?_;refine au 1 ?_;refine ak (aO rfl rfl (aG (n := d0 + (b0 + w0 / 4294967296) / 4294967296) Om Om)) ?_;refine au 1 ?_;refine ak (cn rfl rfl Om (zC _)) ?_;refine ak (aO rfl rfl (aG (n := x * y / 18446744073709551616) Om hlt)) ?_;refine au 7 ?_;refine ak (cS rfl rfl (Qx (n := x * y) (Int.natCast_mul _ _).symm)) ?_;refine aU ?_;exact aa4 rfl rfl ⟨rfl, Ext.refl _⟩
theorem jh (x y c : Nat) (hc : c ≤ 1) (w : aa9) :
  (callFunc 201 #[.int .u64 (x : Int), .int .u64 (y : Int), .int .u64 (c : Int)]).run Tryz.prog w = .ok (.value (.tuple #[.int .u64 (((x + y + c) % 18446744073709551616 : Nat) : Int), .int .u64 (((x + y + c) / 18446744073709551616 : Nat) : Int)])) w := by
 rw [run_callFunc_extern func201 Kr Kr Kr (e := add64Entry) Kr, run_add64 x y c Om Om Om Om];simp only [Result.andThen];congr 5 <;> omega
def tw (s : Nat) : Array Value := #[.int .u64 ((s / 18446744073709551616 : Nat) : Int), .int .u64 ((s % 18446744073709551616 : Nat) : Int)]
theorem ya (s : Nat) : (tw s).all (·.oneCell') = true := by simp [tw, Value.oneCell']
theorem AF (s a b : Nat) (w : aa9) (ha : a < 18446744073709551616) (hb : b < 18446744073709551616) (hs : s + a * b < 340282366920938463463374607431768211456) :
  Ct 200 #[.agg (tw s), .int .u64 (a : Int), .int .u64 (b : Int)] w (ck w (.agg (tw (s + a * b)))) := by
 obtain ⟨m, hm⟩ : ∃ m, m = a * b := ⟨_, rfl⟩
 rw [← hm] at hs ⊢;refine aH (s := 2) 34 func200 rfl rfl rfl underlying241 rfl Kr rfl ?_;intro _ aa4;refine aU ?_;intro w1 g1 (B1 : aq _ _ _ (tw s)) YX ex;have E1 := ex;refine aU ?_;intro w2 g2 (B2 : aq _ _ _ (tw 0)) YV ex;have E2 := E1.ext ex; have YW := B1.ext ex; have YU : w.heap.size ≤ g2 := Nat.le_trans E1.size YV;refine aU ?_;refine aB func237 rfl (qH a b _ ha hb) ?_;rintro e _ ⟨rfl, ex⟩;refine au 1 ?_;rw [← hm]; have E3 := E2.ext ex; have C1 := YW.ext ex; have C2 := B2.ext ex;refine au 12 ?_;refine ak ((oS rfl (jh _ _ 0 Om))) ?_;refine au 13 ?_;refine ak ((oS rfl (jh _ _ _ Om))) ?_;refine au 7 ?_;rw [show (s / 18446744073709551616 + m / 18446744073709551616 + (s % 18446744073709551616 + m % 18446744073709551616 + 0) / 18446744073709551616) % 18446744073709551616 = (s + m) / 18446744073709551616 by omega, show (s % 18446744073709551616 + m % 18446744073709551616 + 0) % 18446744073709551616 = (s + m) % 18446744073709551616 by omega];refine au 3 ?_;refine ak (aA rfl (cells := tw (s + m)) Kr) ?_;refine af (ag rfl rfl Kr C2 rfl (ya _)) rfl ?_;rintro _ _ ⟨rfl, B4, cg⟩;have E4 := E3.aw cg YU;refine aU ?_;exact aa4 rfl B4 rfl ⟨rfl, E4⟩
def sm (S : Nat → Nat) : Array Value := ((List.range 5).map fun r => (tw (S r)).toList).flatten.toArray
theorem qQ (S : Nat → Nat) : sm S = #[.int .u64 ((S 0 / 18446744073709551616 : Nat) : Int), .int .u64 ((S 0 % 18446744073709551616 : Nat) : Int), .int .u64 ((S 1 / 18446744073709551616 : Nat) : Int), .int .u64 ((S 1 % 18446744073709551616 : Nat) : Int), .int .u64 ((S 2 / 18446744073709551616 : Nat) : Int), .int .u64 ((S 2 % 18446744073709551616 : Nat) : Int), .int .u64 ((S 3 / 18446744073709551616 : Nat) : Int), .int .u64 ((S 3 % 18446744073709551616 : Nat) : Int), .int .u64 ((S 4 / 18446744073709551616 : Nat) : Int), .int .u64 ((S 4 % 18446744073709551616 : Nat) : Int)] := rfl
theorem Fi (S : Nat → Nat) : (sm S).size = 10 := rfl
theorem JZ (S : Nat → Nat) (hr : r < 5) (j : Nat) (v : Value) (h : (tw (S r))[j]? = some v) : (sm S)[r * 2 + j]? = some v := by
 rw [qQ];unfold tw at h
 have hj : j < 2 := by
  rcases Nat.lt_or_ge j 2 with h1 | h1
  ·exact h1
  rw [Array.getElem?_eq_none (by simpa using h1)] at h; cases h
 rcases Nat.lt_or_ge j 1 with h1 | h1
 ·obtain rfl : j = 0 := Om
  match r, hr with
  | 0, _ | 1, _ | 2, _ | 3, _ | 4, _ => simpa using h
 obtain rfl : j = 1 := Om
 match r, hr with
 | 0, _ | 1, _ | 2, _ | 3, _ | 4, _ => simpa using h
theorem SH (S : Nat → Nat) (hr : r < 5) : (sm S).extract (r * 2) (r * 2 + 2) = tw (S r) := by
 rw [qQ]
 match r, hr with
 | 0, _ | 1, _ | 2, _ | 3, _ | 4, _ => rfl
theorem NN (S : Nat → Nat) (hr : r < 5) (x : Nat) : ((sm S).toList.take (r * 2) ++ (tw x).toList ++ (sm S).toList.drop (r * 2 + (tw x).size)).toArray = sm (fun q => if q = r then x else S q) := by
 rw [qQ, qQ]
 match r, hr with
 | 0, _ | 1, _ | 2, _ | 3, _ | 4, _ => rfl
theorem Aj {T : Nat → Nat} (h : ∀ r, r < 5 → S r = T r) : sm S = sm T := by rw [qQ, qQ, h 0 Om, h 1 Om, h 2 Om, h 3 Om, h 4 Om]
theorem VA (x : Nat) (hx : x * 8192 < 18446744073709551616) : IntKind.u64.wrap ((x : Int) * 2 ^ (min (13 : Int).toNat IntKind.u64.bits)) = ((x * 8192 : Nat) : Int) := by rw [show (2 : Int) ^ (min (13 : Int).toNat IntKind.u64.bits) = 8192 from rfl];exact aG Om hx
theorem WA (a b : Nat) (hb : b < 8192) (ha : a * 8192 < 18446744073709551616) : bits .or .u64 ((a * 8192 : Nat) : Int) (b : Int) = ((a * 8192 + b : Nat) : Int) := by have h := (cz (p := a * 8192) (q := b) ha Om).2.1;rw [h, show a * 8192 = 2 ^ 13 * a by omega, Nat.two_pow_add_eq_or_of_lt (show b < 2 ^ 13 from hb)]
theorem NQ (f g : Nat → Nat) (w : aa9) (hf : Fp.small f) (hg : Fp.small g) :
  Ct 144 #[.agg (fe f), .agg (fe g)] w fun e w' => ∃ h, e = .returned (.agg (fe h)) ∧ Fp.small h ∧ Fp.val h % Fp.p = Fp.val f * Fp.val g % Fp.p ∧ Ext w w' := by
 obtain ⟨S, hS⟩ : ∃ S, S = Fp.acc f g 25 := ⟨_, rfl⟩
 have hSl : ∀ j, j < 5 → S j ≤ 9634144561734543451374944360857600 := fun j _ => by rw [hS]; exact Fp.Nj hf hg 25 j Om
 have Za : S 4 ≤ 101412048018258352119736256430080 := by rw [hS]; exact Fp.Kf hf hg
 have hz : ∀ t r, t ≤ 25 → Fp.acc f g t r ≤ 9634144561734543451374944360857600 := fun t r ht => by have := Fp.Nj hf hg t r ht; omega
 refine aH (s := 5) 88 func144 rfl rfl rfl underlying134 rfl Kr rfl ?_;intro _ aa4;refine aU ?_;intro w1 g1 (B1 : aq _ _ _ (fe f)) Zv ex;have E1 := ex;refine aU ?_;intro w2 g2 (B2 : aq _ _ _ (fe g)) Zw ex;have E2 := E1.ext ex; replace B1 := B1.ext ex; have Zx := B2.lt;refine aU ?_;intro w3 g3 (B3 : aq _ _ _ (fe (fun _ => 0))) Zb ex;have E3 := E2.ext ex; replace B1 := B1.ext ex; replace B2 := B2.ext ex; have Zy := B3.lt;refine aU ?_;intro w4 g4 (B4 : aq _ _ _ (sm (fun _ => 0))) Zc ex;have E4 := E3.ext ex; replace B1 := B1.ext ex; replace B2 := B2.ext ex; replace B3 := B3.ext ex; have YU : w.heap.size ≤ g4 := Nat.le_trans E3.size Zc; have YX : w.heap.size ≤ g3 := Nat.le_trans E2.size Zb;refine aU ?_;refine aE (fun n' L wr => ∃ i : Nat, L = [(3, .pointer (cf g2)), (4, .pointer (cf g3)), (5, .pointer (cf g4)), (18, .agg (fe f)), (19, .int .i64 (i : Int))] ∧ n' = 5 - i ∧ (i ≤ 5 ∧ Ext w wr ∧ aq wr g2 134 (fe g) ∧ aq wr g3 134 (fe (fun _ => 0)) ∧ aq wr g4 242 (sm (Fp.acc f g (5 * i))))) _ _ ⟨0, rfl, rfl, Om, E4, B2, B3, B4⟩ Ls ?_;rintro _ n' L wr ⟨i, rfl, rfl, _, F, C2, C3, C4⟩ Zd;refine aa1 (fun Ze => ?_) (fun Ze => ?_)
 ·refine au 7 ?_;refine ak (pJ rfl rfl Tn.u Tn.u rfl Kr rfl Om (dV f rfl Om)) ?_;refine aU ?_;have hfi := hf i Om;refine aE (fun n' L wq => ∃ k : Nat, L = [(3, .pointer (cf g2)), (4, .pointer (cf g3)), (5, .pointer (cf g4)), (6, .int .i64 (i : Int)), (7, .int .u64 ((f i : Nat) : Int)), (18, .agg (fe f)), (19, .int .i64 (i : Int)), (24, .agg (fe g)), (25, .int .i64 (k : Int))] ∧ n' = 5 - k ∧ (k ≤ 5 ∧ Ext w wq ∧ aq wq g2 134 (fe g) ∧ aq wq g3 134 (fe (fun _ => 0)) ∧ aq wq g4 242 (sm (Fp.acc f g (5 * i + k))))) _ _ ⟨0, rfl, rfl, Om, F, C2, C3, C4⟩ Ls ?_;rintro _ n' L wq ⟨k, rfl, rfl, _, G, K2, K3, K4⟩ Y0;refine aa1 (fun Zf => ?_) (fun Zf => ?_)
  ·refine au 7 ?_;refine ak (pJ rfl rfl Tn.u Tn.u rfl Kr rfl Om (dV g rfl Om)) ?_;refine au 9 ?_;refine ak (aO rfl rfl (bk (n := i + k) Om Om)) ?_;refine aa1 (fun Zg => ?_) (fun Zg => ?_)
   ·have hgk := hg k Om;refine au 2 ?_;refine ak (cS rfl rfl (aG (n := g k * 19) Om Om)) ?_;have YY := hg k Om;have YV : (i + k) % 5 < 5 := Om
    have hac := hz (5 * i + k) ((i + k) % 5) Om;have hpr : f i * (g k * 19) ≤ 4503599627370496 * 85568392920039424 := Nat.mul_le_mul Om Om
    have hmt : ∀ r, Fp.acc f g (5 * i + (k + 1)) r = if r = (i + k) % 5 then Fp.acc f g (5 * i + k) ((i + k) % 5) + f i * (g k * 19) else Fp.acc f g (5 * i + k) r := fun r => by
     rw [show 5 * i + (k + 1) = 5 * i + k + 1 from rfl, Fp.acc, Fp.Eh, show (5 * i + k) / 5 = i by omega, show (5 * i + k) % 5 = k by omega];by_cases h : r = (i + k) % 5
     ·subst h; rw [if_pos rfl, if_pos rfl]; congr 2; split <;> first | rfl | (exfalso; omega)
     rw [if_neg h, if_neg (fun e => h e.symm), Nat.add_zero]
    refine au 6 ?_;refine ak (aO rfl rfl (bk (n := i + k) Om Om)) ?_;refine ak (cR rfl rfl Om (show (((i + k : Nat) : Int).tmod 5 = (((i + k) % 5 : Nat) : Int)) from rfl)) ?_;refine au 2 ?_;refine ak (aO rfl rfl (bk (n := i + k) Om Om)) ?_;refine ak (cR rfl rfl Om (show (((i + k : Nat) : Int).tmod 5 = (((i + k) % 5 : Nat) : Int)) from rfl)) ?_;refine ak (xx (s := 2) rfl rfl Tn.u Kr rfl Om) ?_;refine ak (ew rfl Tn.u rfl (cs := tw (Fp.acc f g (5 * i + k) ((i + k) % 5))) Kr (fun j v h => by rw [Addr.add_plain, Nat.zero_add]; exact K4.get (JZ _ YV j v h))) ?_;refine aU ?_;refine aB func200 rfl (AF _ (f i) (g k * 19) _ Om Om Om) ?_;rintro e w5 ⟨rfl, ex⟩;refine au 1 ?_;have G5 := G.ext ex; have L2 := K2.ext ex; have L3 := K3.ext ex; have L4 := K4.ext ex;refine ak (xx (s := 2) rfl rfl Tn.u Kr rfl Om) ?_;refine af (bI rfl rfl Kr L4 (by rw [Fi]; show 0 + (i + k) % 5 * 2 + 2 ≤ 10; omega) (ya _)) rfl ?_;rintro _ w6 ⟨rfl, B6, cg⟩;rw [Nat.zero_add, NN _ YV] at B6; have G6 := G5.aw cg YU; have M2 := L2.aw cg Om; have M3 := L3.aw cg Om;refine au 7 ?_;refine ae ?_;refine Y0 _ _ ⟨k + 1, rfl, rfl, Om, G6, M2, M3, B6.congr (Aj fun r _ => (hmt r).symm)⟩ Om Ls
   have YY := hg k Om;have YV : (i + k) % 5 < 5 := Om
   have hac := hz (5 * i + k) ((i + k) % 5) Om;have hpr : f i * (g k) ≤ 4503599627370496 * 85568392920039424 := Nat.mul_le_mul Om Om
   have hmt : ∀ r, Fp.acc f g (5 * i + (k + 1)) r = if r = (i + k) % 5 then Fp.acc f g (5 * i + k) ((i + k) % 5) + f i * (g k) else Fp.acc f g (5 * i + k) r := fun r => by
    rw [show 5 * i + (k + 1) = 5 * i + k + 1 from rfl, Fp.acc, Fp.Eh, show (5 * i + k) / 5 = i by omega, show (5 * i + k) % 5 = k by omega];by_cases h : r = (i + k) % 5
    ·subst h; rw [if_pos rfl, if_pos rfl]; congr 2; split <;> first | rfl | (exfalso; omega)
    rw [if_neg h, if_neg (fun e => h e.symm), Nat.add_zero]
   refine au 5 ?_;refine ak (aO rfl rfl (bk (n := i + k) Om Om)) ?_;refine ak (cR rfl rfl Om (show (((i + k : Nat) : Int).tmod 5 = (((i + k) % 5 : Nat) : Int)) from rfl)) ?_;refine au 2 ?_;refine ak (aO rfl rfl (bk (n := i + k) Om Om)) ?_;refine ak (cR rfl rfl Om (show (((i + k : Nat) : Int).tmod 5 = (((i + k) % 5 : Nat) : Int)) from rfl)) ?_;refine ak (xx (s := 2) rfl rfl Tn.u Kr rfl Om) ?_;refine ak (ew rfl Tn.u rfl (cs := tw (Fp.acc f g (5 * i + k) ((i + k) % 5))) Kr (fun j v h => by rw [Addr.add_plain, Nat.zero_add]; exact K4.get (JZ _ YV j v h))) ?_;refine aU ?_;refine aB func200 rfl (AF _ (f i) (g k) _ Om Om Om) ?_;rintro e w5 ⟨rfl, ex⟩;refine au 1 ?_;have G5 := G.ext ex; have L2 := K2.ext ex; have L3 := K3.ext ex; have L4 := K4.ext ex;refine ak (xx (s := 2) rfl rfl Tn.u Kr rfl Om) ?_;refine af (bI rfl rfl Kr L4 (by rw [Fi]; show 0 + (i + k) % 5 * 2 + 2 ≤ 10; omega) (ya _)) rfl ?_;rintro _ w6 ⟨rfl, B6, cg⟩;rw [Nat.zero_add, NN _ YV] at B6; have G6 := G5.aw cg YU; have M2 := L2.aw cg Om; have M3 := L3.aw cg Om;refine au 7 ?_;refine ae ?_;refine Y0 _ _ ⟨k + 1, rfl, rfl, Om, G6, M2, M3, B6.congr (Aj fun r _ => (hmt r).symm)⟩ Om Ls
  refine au 10 ?_;refine ae ?_;refine Zd _ _ ⟨i + 1, rfl, rfl, Om, G, K2, K3, K4.congr (by rw [show k = 5 by omega]; rfl)⟩ Om Ls
 have Zh : aq wr g4 242 (sm S) := C4.congr (by rw [hS, show i = 5 by omega]);refine aU ?_;intro w7 g7 (B7 : aq _ _ _ (fe (fun _ => 0))) Zi ex;have E7 := F.ext ex; have D3 := C3.ext ex; have D4 := Zh.ext ex; have YW : w.heap.size ≤ g7 := Nat.le_trans F.size Zi; have Zj := C3.lt;refine aU ?_;refine aE (fun n' L wz => ∃ q : Nat, L = [(4, .pointer (cf g3)), (10, .pointer (cf g7)), (11, .int .u64 ((Fp.fr S q : Nat) : Int)), (51, .agg (sm S)), (52, .int .i64 (q : Int))] ∧ n' = 5 - q ∧ (q ≤ 5 ∧ Ext w wz ∧ aq wz g3 134 (fe (fun _ => 0)) ∧ aq wz g7 134 (fe (fun j => if j < q then (S j + Fp.fr S j) % 2251799813685248 else 0)))) _ _ ⟨0, rfl, rfl, Om, E7, D3, B7⟩ Ls ?_;rintro _ n' L wz ⟨q, rfl, rfl, _, H, J3, J7⟩ Zk;refine aa1 (fun Zl => ?_) (fun Zl => ?_)
 ·refine au 7 ?_;refine ak (UX rfl rfl Tn.u Tn.u rfl Kr rfl Om (SH S Om)) ?_;refine aU ?_;intro w8 g8 (B8 : aq _ _ _ (tw 0)) Zm ex;have H8 := H.ext ex; have P3 := J3.ext ex; have P7 := J7.ext ex; have YZ : w.heap.size ≤ g8 := Nat.le_trans H.size Zm; have Zn := J3.lt; have Zo := J7.lt;refine au 1 ?_;refine af (ag rfl rfl Kr B8 rfl (ya _)) rfl ?_;rintro _ _ ⟨rfl, _, cg⟩;have H9 := H8.aw cg YZ; have Q3 := P3.aw cg Om; have Q7 := P7.aw cg Om; have hfr := Fp.QP hSl q Om; have hSq := hSl q Om;refine au 7 ?_;refine ak ((oS rfl (jh _ _ 0 Om))) ?_;refine au 12 ?_;refine ak (aO rfl rfl (aG (n := (S q + Fp.fr S q) / 18446744073709551616) Om Om)) ?_;refine au 4 ?_;rw [show (S q % 18446744073709551616 + Fp.fr S q + 0) % 18446744073709551616 = (S q + Fp.fr S q) % 18446744073709551616 by omega];refine au 3 ?_;refine ak (cT rfl rfl (mR _ Om)) ?_;refine au 2 ?_;refine af (az rfl rfl rfl Kr Q7 (by rw [aj]; omega)) rfl ?_;rintro _ _ ⟨rfl, Y2, cg⟩;rw [Nat.zero_add, jz] at Y2; have Zp := H9.aw cg YW; have R3 := Q3.aw cg Om;refine au 4 ?_;refine ak (fX rfl rfl Om (VA _ Om)) ?_;refine au 1 ?_;refine ak (cn rfl rfl Om (wv _ Om)) ?_;refine ak (jZ rfl rfl (WA _ _ Om Om)) ?_;refine au 8 ?_;refine ae ?_;have hfrs : Fp.fr S (q + 1) = (S q + Fp.fr S q) / 2251799813685248 := rfl
  refine Zk _ _ ⟨q + 1, rfl, rfl, Om, Zp, R3, Y2.congr (dX fun j hj => by
   by_cases h : j = q
   ·subst h; rw [if_pos rfl, if_pos Om]; omega
   rw [if_neg h]; by_cases h2 : j < q
   ·rw [if_pos h2, if_pos Om]
   rw [if_neg h2, if_neg Om])⟩ Om Ls
 obtain rfl : q = 5 := Om
 have Zz := Fp.OA hSl Za
 obtain ⟨o, ho⟩ : ∃ o : Nat → Nat, o = fun j => (S j + Fp.fr S j) % 2251799813685248 + (if j = 0 then Fp.fr S 5 * 19 else 0) := ⟨_, rfl⟩
 have hol : ∀ j, j < 5 → o j < 18446744073709551616 := fun j hj => by rw [ho]; show (S j + Fp.fr S j) % 2251799813685248 + (if j = 0 then Fp.fr S 5 * 19 else 0) < _; split <;> omega
 have hov := Fp.OR S;rw [← ho] at hov
 have hoc : ∀ j, j < 5 → (if j = 0 then (S 0 + Fp.fr S 0) % 2251799813685248 + Fp.fr S 5 * 19 else if j < 5 then (S j + Fp.fr S j) % 2251799813685248 else 0) = o j := fun j hj => by
  rw [ho]
  show _ = (S j + Fp.fr S j) % 2251799813685248 + (if j = 0 then Fp.fr S 5 * 19 else 0)
  by_cases h : j = 0
  ·subst h; rw [if_pos rfl, if_pos rfl]
  rw [if_neg h, if_pos hj, if_neg h, Nat.add_zero]
 refine au 8 ?_;refine ak (bM rfl rfl Tn.u Kr (j := 0) rfl Om) ?_;refine ak (ah rfl Tn.u rfl (J7.get (v := .int .u64 (((S 0 + Fp.fr S 0) % 2251799813685248 : Nat) : Int)) (by rw [Nat.zero_add, dV _ (j := 0) rfl Om, if_pos Om]))) ?_;refine au 1 ?_;refine ak (cS rfl rfl (aG (n := Fp.fr S 5 * 19) Om Om)) ?_;refine ak (aO rfl rfl (aG (n := (S 0 + Fp.fr S 0) % 2251799813685248 + Fp.fr S 5 * 19) Om Om)) ?_;refine au 1 ?_;refine ak (bM rfl rfl Tn.u Kr (j := 0) rfl Om) ?_;refine af (az rfl rfl rfl Kr J7 (by rw [aj]; omega)) rfl ?_;rintro _ Zq ⟨rfl, Y3, cg⟩;have Zr := H.aw cg YW; have U3 := J3.aw cg Om; replace Y3 : aq Zq g7 134 (fe o) := (Y3.congr (jz _ 0 _)).congr (dX hoc);refine aU ?_;refine aB func202 rfl (kO o _ hol) ?_;rintro e _ ⟨rfl, ex⟩;refine au 1 ?_;have Zs := Zr.ext ex; have V3 := U3.ext ex;refine af (ag rfl rfl (by rw [aj]; kernel_rfl) V3 (by rw [aj, aj]) (bg _)) rfl ?_;rintro _ _ ⟨rfl, Zt, cg⟩;have Zu := Zs.aw cg YX;refine aU ?_;refine aa4 rfl Zt (aj _) ?_
 exact ⟨Fp.carry o, rfl, Fp.iJ hol, by
  obtain ⟨n, hn⟩ := Fp.Qe f g
  rw [Fp.fE, hn, Nat.add_mul_mod_self_left, ← hS, ← hov, Nat.add_mul_mod_self_left], Zu⟩
def Fe (cs : Array Value) (x : Nat) : Prop := ∃ f, cs = fe f ∧ Fp.small f ∧ Fp.val f % Fp.p = x
theorem Fe.lt (h : Fe cs x) : x < Fp.p := by obtain ⟨f, _, _, rfl⟩ := h; exact Nat.mod_lt _ (by unfold Fp.p; omega)
theorem Fe.size (h : Fe cs x) : cs.size = 5 := by obtain ⟨f, rfl, _⟩ := h; exact aj f
theorem Fe.one (h : Fe cs x) : cs.all (·.oneCell') = true := by obtain ⟨f, rfl, _⟩ := h; exact bg f
theorem Fe.zero : Fe (fe (fun _ => 0)) 0 := ⟨_, rfl, fun j _ => by show 0 < _; omega, rfl⟩
theorem zb (ha : Fe cs a) (hb : Fe ds b) (w : aa9) :
  Ct 144 #[.agg cs, .agg ds] w fun e w' => ∃ es, e = .returned (.agg es) ∧ Fe es (a * b % Fp.p) ∧ Ext w w' := by
 obtain ⟨f, rfl, hf, rfl⟩ := ha;obtain ⟨g, rfl, hg, rfl⟩ := hb;refine (NQ f g w hf hg).mono ?_;rintro e w' ⟨h, rfl, hh, hv, ex⟩;exact ⟨_, rfl, ⟨h, rfl, hh, by rw [hv, Nat.mul_mod]⟩, ex⟩
theorem Kx (ha : Fe cs a) (hb : Fe ds b) (w : aa9) :
  Ct 151 #[.agg cs, .agg ds] w fun e w' => ∃ es, e = .returned (.agg es) ∧ Fe es ((a + b) % Fp.p) ∧ Ext w w' := by
 obtain ⟨f, rfl, hf, rfl⟩ := ha;obtain ⟨g, rfl, hg, rfl⟩ := hb;refine aH (s := 5) 24 func151 rfl rfl rfl underlying134 rfl Kr rfl ?_;intro _ aa4;refine aU ?_;intro w1 g1 (B1 : aq _ _ _ (fe f)) YV ex;have E1 := ex; have YZ := B1.lt;refine aU ?_;intro w2 g2 (B2 : aq _ _ _ (fe g)) Y0 ex;have E2 := E1.ext ex; replace B1 := B1.ext ex; have Y2 := B2.lt;refine aU ?_;intro w3 g3 (B3 : aq _ _ _ (fe (fun _ => 0))) YW ex;have E3 := E2.ext ex; replace B1 := B1.ext ex; replace B2 := B2.ext ex; have YU : w.heap.size ≤ g3 := Nat.le_trans E2.size YW;refine aU ?_;refine aE (fun n' L wr => ∃ i : Nat, L = [(2, .pointer (cf g1)), (4, .pointer (cf g3)), (8, .agg (fe g)), (9, .int .i64 (i : Int))] ∧ n' = 5 - i ∧ (i ≤ 5 ∧ Ext w wr ∧ aq wr g1 134 (fe (fun j => if j < i then f j + g j else f j)) ∧ aq wr g3 134 (fe (fun _ => 0)))) _ _ ⟨0, rfl, rfl, Om, E3, B1.congr (dX fun j _ => by rw [if_neg Om]), B3⟩ Ls ?_;rintro _ n' L wr ⟨i, rfl, rfl, _, F, C1, C3⟩ YX;refine aa1 (fun YY => ?_) (fun YY => ?_)
 ·have hfi := hf i Om; have hgi := hg i Om;refine au 7 ?_;refine ak (pJ rfl rfl Tn.u Tn.u rfl Kr rfl Om (dV g rfl Om)) ?_;refine au 8 ?_;refine ak (ah rfl Tn.u rfl (C1.get (v := .int .u64 ((f i : Nat) : Int)) (by rw [Nat.zero_add, dV _ rfl Om, if_neg Om]))) ?_;refine au 1 ?_;refine ak (aO rfl rfl (aG (n := f i + g i) Om Om)) ?_;refine au 2 ?_;refine af (az rfl rfl rfl Kr C1 (by rw [aj]; omega)) rfl ?_;rintro _ _ ⟨rfl, B4, cg⟩;rw [Nat.zero_add, jz] at B4; have F4 := F.aw cg YV; have D3 := C3.aw cg Om;refine au 7 ?_;refine ae ?_
  refine YX _ _ ⟨i + 1, rfl, rfl, Om, F4, B4.congr (dX fun j _ => by
   by_cases h : j = i
   ·subst h; rw [if_pos rfl, if_pos Om]
   rw [if_neg h]; by_cases h2 : j < i
   ·rw [if_pos h2, if_pos Om]
   rw [if_neg h2, if_neg Om]), D3⟩ Om Ls
 have hs : ∀ j, j < 5 → (if j < i then f j + g j else f j) < 18446744073709551616 := fun j hj => by have := hf j hj; have := hg j hj; split <;> omega
 have hv : Fp.val (fun j => if j < i then f j + g j else f j) = Fp.val f + Fp.val g := by rw [Fp.val_congr (g := fun j => f j + g j) fun j hj => by rw [if_pos Om]];simp only [Fp.val]; omega
 refine aU ?_;refine aB func202 rfl (kO _ _ hs) ?_;rintro e _ ⟨rfl, ex⟩;refine au 1 ?_;have F5 := F.ext ex; have D5 := C3.ext ex;refine af (ag rfl rfl (by rw [aj]; kernel_rfl) D5 (by rw [aj, aj]) (bg _)) rfl ?_;rintro _ _ ⟨rfl, B6, cg⟩;have F6 := F5.aw cg YU;refine aU ?_;exact aa4 rfl B6 (aj _) ⟨_, rfl, ⟨_, rfl, Fp.iJ hs, by rw [Fp.fE, hv, Nat.add_mod]⟩, F6⟩
def ka (j : Nat) : Nat := if j = 0 then 4503599627370458 else 4503599627370494
theorem BP (j : Nat) : 4503599627370458 ≤ ka j ∧ ka j ≤ 4503599627370494 := by unfold ka; split <;> omega
theorem xo {F G p : Nat} (hF : F % p = a) (hG : G % p = b) (hb : b < p) (YU : G ≤ F + 2 * p) : (F + 2 * p - G) % p = (a + p - b) % p := by
 have e1 := Nat.div_add_mod F p;have e2 := Nat.div_add_mod G p;rw [hF] at e1; rw [hG] at e2
 have h : F + 2 * p - G + p * (G / p) = a + p - b + p * (F / p + 1) := by rw [Nat.mul_add, Nat.mul_one];omega
 rw [← Nat.add_mul_mod_self_left (F + 2 * p - G) p (G / p), h, Nat.add_mul_mod_self_left]
theorem Bp (ha : Fe cs a) (hb : Fe ds b) (w : aa9) :
  Ct 206 #[.agg cs, .agg ds] w fun e w' => ∃ es, e = .returned (.agg es) ∧ Fe es ((a + Fp.p - b) % Fp.p) ∧ Ext w w' := by
 have hbl := hb.lt;obtain ⟨f, rfl, hf, hfa⟩ := ha;obtain ⟨g, rfl, hg, hgb⟩ := hb;refine aH (s := 5) 29 func206 rfl rfl rfl underlying134 rfl Kr rfl ?_;intro _ aa4;refine aU ?_;intro w1 g1 (B1 : aq _ _ _ (fe f)) YW ex;have E1 := ex; have Y2 := B1.lt;refine aU ?_;intro w2 g2 (B2 : aq _ _ _ (fe g)) Y3 ex;have E2 := E1.ext ex; replace B1 := B1.ext ex; have Za := B2.lt;refine aU ?_;intro w3 g3 (B3 : aq _ _ _ (fe (fun _ => 0))) YX ex;have E3 := E2.ext ex; replace B1 := B1.ext ex; replace B2 := B2.ext ex; have YU : w.heap.size ≤ g3 := Nat.le_trans E2.size YX; have Zb := B3.lt;refine au 4 ?_;refine ak (aA rfl (cells := fe ka) Kr) ?_;refine aU ?_;intro w4 g4 (B4 : aq _ _ _ (fe (fun _ => 0))) YY ex;have E4 := E3.ext ex; replace B1 := B1.ext ex; replace B2 := B2.ext ex; replace B3 := B3.ext ex; have YV : w.heap.size ≤ g4 := Nat.le_trans E3.size YY;refine af (ag rfl rfl Kr B4 (by rw [aj, aj]) (bg _)) rfl ?_;rintro _ _ ⟨rfl, B5, cg⟩;have E5 := E4.aw cg YV; replace B1 := B1.aw cg Om; replace B2 := B2.aw cg Om; replace B3 := B3.aw cg Om;refine aU ?_;refine aE (fun n' L wr => ∃ i : Nat, L = [(2, .pointer (cf g1)), (3, .pointer (cf g2)), (4, .pointer (cf g3)), (5, .pointer (cf g4)), (8, .int .i64 (i : Int))] ∧ n' = 5 - i ∧ (i ≤ 5 ∧ Ext w wr ∧ aq wr g1 134 (fe (fun j => if j < i then f j + (ka j - g j) else f j)) ∧ aq wr g2 134 (fe g) ∧ aq wr g3 134 (fe (fun _ => 0)) ∧ aq wr g4 132 (fe ka))) _ _ ⟨0, rfl, rfl, Om, E5, B1.congr (dX fun j _ => by rw [if_neg Om]), B2, B3, B5⟩ Ls ?_;rintro _ n' L wr ⟨i, rfl, rfl, _, F, C1, C2, C3, C4⟩ YZ;refine aa1 (fun Y0 => ?_) (fun Y0 => ?_)
 ·refine aU ?_;have hfi := hf i Om; have hgi := hg i Om; have htw := BP i;refine aD Kr 16 rfl ?_; intro Zc ex Zd;replace F := F.ext ex; replace C1 := C1.ext ex; replace C2 := C2.ext ex; replace C3 := C3.ext ex; replace C4 := C4.ext ex;refine zm [0, 1, 2] ?_;refine my 3 rfl (ah rfl Tn.u rfl (C1.get (v := .int .u64 ((f i : Nat) : Int)) (by rw [Nat.zero_add, dV _ rfl Om, if_neg Om]))) ?_;refine zm [4, 5] ?_;refine my 6 rfl (ah rfl Tn.u rfl (C4.get (dV ka (by rw [Nat.zero_add]) Om))) ?_;refine zm [7, 8, 9] ?_;refine my 10 rfl (ah rfl Tn.u rfl (C2.get (dV g (by rw [Nat.zero_add]) Om))) ?_;refine dF 11 rfl (fun _ => fG rfl rfl (aG (n := ka i - g i) Om Om)) ?_;refine dF 12 rfl (fun _ => aO rfl rfl (aG (n := f i + (ka i - g i)) Om Om)) ?_;refine zm [13, 14] ?_;refine aR 15 Kr ?_; refine bE rfl (az rfl rfl rfl Kr C1 (by rw [aj]; omega)) rfl ?_;rintro _ _ ⟨rfl, B6, cg⟩;refine ⟨.inl rfl, ?_⟩;rw [Nat.zero_add, jz] at B6; have F6 := F.aw cg YW; have D2 := C2.aw cg Om; have D3 := C3.aw cg Om; have D4 := C4.aw cg Om;refine au 8 ?_;refine ae ?_
  refine YZ _ _ ⟨i + 1, rfl, rfl, Om, F6, B6.congr (dX fun j _ => by
   by_cases h : j = i
   ·subst h; rw [if_pos rfl, if_pos Om]
   rw [if_neg h]; by_cases h2 : j < i
   ·rw [if_pos h2, if_pos Om]
   rw [if_neg h2, if_neg Om]), D2, D3, D4⟩ Om Ls
 have hs : ∀ j, j < 5 → (if j < i then f j + (ka j - g j) else f j) < 18446744073709551616 := fun j hj => by have := hf j hj; have := BP j; split <;> omega
 have hv : Fp.val (fun j => if j < i then f j + (ka j - g j) else f j) = Fp.val f + 2 * Fp.p - Fp.val g ∧ Fp.val g ≤ Fp.val f + 2 * Fp.p := by rw [Fp.val_congr (g := fun j => f j + (ka j - g j)) fun j hj => by rw [if_pos Om]];have h0 := hg 0 Om; have h1 := hg 1 Om; have h2 := hg 2 Om; have h3 := hg 3 Om; have h4 := hg 4 Om;simp only [Fp.val, ka, Fp.p];simp;omega
 refine aU ?_;refine aB func202 rfl (kO _ _ hs) ?_;rintro e _ ⟨rfl, ex⟩;refine au 1 ?_;have F7 := F.ext ex; have D3 := C3.ext ex;refine af (ag rfl rfl (by rw [aj]; kernel_rfl) D3 (by rw [aj, aj]) (bg _)) rfl ?_;rintro _ _ ⟨rfl, B8, cg⟩;have F8 := F7.aw cg YU;refine aU ?_;exact aa4 rfl B8 (aj _) ⟨_, rfl, ⟨_, rfl, Fp.iJ hs, by rw [Fp.fE, hv.1]; exact xo hfa hgb hbl hv.2⟩, F8⟩
theorem Md (ha : Fe cs a) (w : aa9) :
  Ct 208 #[.agg cs] w fun e w' => ∃ es, e = .returned (.agg es) ∧ Fe es ((Fp.p - a) % Fp.p) ∧ Ext w w' := by
 have hsz := ha.size;refine aH (s := 5) 6 func208 rfl rfl rfl underlying134 rfl Kr rfl ?_;intro _ aa4;refine aU ?_;intro w1 g1 (B1 : aq _ _ _ (cs)) YW ex;have E1 := ex;refine aU ?_;intro w2 g2 (B2 : aq _ _ _ (fe (fun _ => 0))) YV ex;have E2 := E1.ext ex; replace B1 := B1.ext ex; have YU : w.heap.size ≤ g2 := Nat.le_trans E1.size YV;refine au 4 ?_;refine ak (aA rfl (cells := fe (fun _ => 0)) Kr) ?_;refine ak ((aP rfl Tn.u rfl (by rw [hsz]; kernel_rfl) B1)) ?_;refine aB func206 rfl (Bp Fe.zero ha _) ?_;rintro e _ ⟨es, rfl, he, ex⟩;refine au 1 ?_;rw [Nat.zero_add] at he; have E3 := E2.ext ex; have D2 := B2.ext ex;refine af (ag rfl rfl (by rw [he.size]; kernel_rfl) D2 (by rw [aj, he.size]) he.one) rfl ?_;rintro _ _ ⟨rfl, B4, cg⟩;have E4 := E3.aw cg YU;refine aU ?_;exact aa4 rfl B4 he.size ⟨es, rfl, he, E4⟩
theorem zJ (ha : Fe cs a) (w : aa9) :
  Ct 205 #[.agg cs] w fun e w' => ∃ es, e = .returned (.agg es) ∧ Fe es (a * a % Fp.p) ∧ Ext w w' := by
 have hsz := ha.size;refine aH (s := 5) 6 func205 rfl rfl rfl underlying134 rfl Kr rfl ?_;intro _ aa4;refine aU ?_;intro w1 g1 (B1 : aq _ _ _ (cs)) YW ex;have E1 := ex;refine aU ?_;intro w2 g2 (B2 : aq _ _ _ (fe (fun _ => 0))) YV ex;have E2 := E1.ext ex; replace B1 := B1.ext ex; have YU : w.heap.size ≤ g2 := Nat.le_trans E1.size YV;refine au 4 ?_;refine ak ((aP rfl Tn.u rfl (by rw [hsz]; kernel_rfl) B1)) ?_;refine ak ((aP rfl Tn.u rfl (by rw [hsz]; kernel_rfl) B1)) ?_;refine aB func144 rfl (zb ha ha _) ?_;rintro e _ ⟨es, rfl, he, ex⟩;refine au 1 ?_;have E3 := E2.ext ex; have D2 := B2.ext ex;refine af (ag rfl rfl (by rw [he.size]; kernel_rfl) D2 (by rw [aj, he.size]) he.one) rfl ?_;rintro _ _ ⟨rfl, B4, cg⟩;have E4 := E3.aw cg YU;refine aU ?_;exact aa4 rfl B4 he.size ⟨es, rfl, he, E4⟩
theorem Mo (n : Nat) (w : aa9) (hn : n < 18446744073709551616) :
  Ct 143 #[.int .u64 (n : Int)] w fun e w' => ∃ es, e = .returned (.agg es) ∧ Fe es n ∧ Ext w w' := by
 obtain ⟨h, hh⟩ : ∃ h : Nat → Nat, h = fun j => if j = 0 then n % 2251799813685248 else if j = 1 then n / 2251799813685248 else 0 := ⟨_, rfl⟩
 have hsm : Fp.small h := fun j _ => by rw [hh]; show (if j = 0 then n % 2251799813685248 else if j = 1 then n / 2251799813685248 else 0) < _; split <;> (try split) <;> omega
 refine aH (s := 5) 9 func143 rfl rfl rfl underlying134 rfl Kr rfl ?_;intro _ aa4;refine aU ?_;intro w1 g1 (B1 : aq _ _ _ (fe (fun _ => 0))) YU ex;have E1 := ex;refine au 5 ?_;refine ak (cT rfl rfl (mR _ hn)) ?_;refine au 1 ?_;refine ak (cn rfl rfl Om (wv _ hn)) ?_;refine ak (aA rfl (cells := fe h) (by rw [hh]; kernel_rfl)) ?_;refine ak (aA rfl (cells := fe h) (by rw [hh]; kernel_rfl)) ?_;refine af (ag rfl rfl (by rw [aj]; kernel_rfl) B1 (by rw [aj, aj]) (bg _)) rfl ?_;rintro _ _ ⟨rfl, B2, cg⟩;have E2 := E1.aw cg YU;refine aU ?_;exact aa4 rfl B2 (aj _) ⟨_, rfl, ⟨h, rfl, hsm, by rw [hh]; simp only [Fp.val, Fp.p]; simp; omega⟩, E2⟩
theorem MZ (f : Nat → Nat) : (fe f).extract 0 (0 + 5) = fe f := rfl
theorem Ox (x : Nat) (hx : x < 18446744073709551616) : bits .and .u64 (x : Int) 1 = ((x % 2 : Nat) : Int) := by have h := (cz (p := x) (q := 1) hx Om).1;rw [show ((1 : Int)) = ((1 : Nat) : Int) from rfl, h, Nat.and_one_is_mod]
theorem Ks (ha : Fe cs a) (w : aa9) :
  Ct 156 #[.agg cs] w (ck w (.bool (decide (a % 2 = 1)))) := by
 obtain ⟨f, rfl, hf, hfa⟩ := ha;refine ai 9 func156 ?_;intro _ aa4;refine aU ?_;intro w1 g1 (B1 : aq _ _ _ (fe f)) YU ex;have E1 := ex;refine aU ?_;refine aB func209 rfl (nh f _ hf) ?_;rintro e _ ⟨rfl, ex⟩;refine au 1 ?_;rw [hfa]; have E2 := E1.ext ex; have hl := Fp.GG a 0;refine ak (MD (o := 0) (s := 5) rfl underlying134 rfl underlying132 rfl Kr (MZ _)) ?_;refine ak (pJ rfl rfl Tn.u Tn.u rfl Kr (j := 0) rfl Om (dV _ (j := 0) rfl Om)) ?_;refine ak (cT rfl rfl (Ox _ Om)) ?_;refine aU ?_;exact aa4 rfl ⟨dZ (by simp only [Fp.gn, Nat.pow_zero, Nat.div_one]; omega), E2⟩
end
open Go.RowKit Tryz Go.ChangeMaps
theorem Oh (a b : Nat) : ((a : Int) == (b : Int)) = decide (a = b) := by
 by_cases h : a = b
 ·subst h; simp
 rw [decide_eq_false h]; simp; omega
theorem Nf (f : Nat → Nat) (hj : j < 5) (w : aa9) : (part 38 (fe f) j).run Tryz.prog w = .ok (.int .u64 ((f j : Nat) : Int)) w := by have h : (fe f)[j]? = some (.int .u64 ((f j : Nat) : Int)) := dV f rfl hj;simp [part, NY underlying38 rfl w, h]
theorem OQ (f g : Nat → Nat) (w : aa9) : (binOp .eql 134 (.agg (fe f)) (.agg (fe g))).run Tryz.prog w = .ok (.bool (decide (f 0 = g 0 ∧ f 1 = g 1 ∧ f 2 = g 2 ∧ f 3 = g 3 ∧ f 4 = g 4))) w := by
 rw [run_eql_struct];rw [run_equalIn_struct w 9999 _ _ _ (by simp [Program.fieldsOf, underlying134]) Kr];have hfs : (Tryz.prog.fieldsOf 134).toList = [{ name := "l", type := 132, offset := 0, embedded := false, tag := "", pkgPath := "ratline/field", byteOffset := 0 }] := by simp [Program.fieldsOf, underlying134]
 rw [hfs]
 have hp : ∀ h : Nat → Nat, (part 132 (fe h) 0).run Tryz.prog w = .ok (.agg (fe h)) w := fun h => by have hs : (sizeOf 132).run Tryz.prog w = .ok 5 w := bz Kr w;simp [part, nf underlying132 rfl w, hs];exact .inr (by rw [aj]; omega)
 simp only [Op.eqFields];rw [if_pos (show "l" ≠ "_" by decide)];simp only [Sem.run_bind, hp, Result.andThen_ok];obtain ⟨i, hi⟩ : ∃ i, Tryz.prog.info? 38 = some i := Option.isSome_iff_exists.1 Kr;have hc : Tryz.prog.cellsOf 38 = 1 := by kernel_rfl
 rw [run_equalIn_array w 9998 (fe f) (fe g) underlying132 hi, hc, show List.range 5 = [0, 1, 2, 3, 4] from rfl]
 have he : ∀ a b : Nat, (Op.equalIn 9998 38 (.int .u64 (a : Int)) (.int .u64 (b : Int))).run Tryz.prog w = .ok (decide (a = b)) w := fun a b => by rw [run_equalIn_int w 9997 _ .u64 .u64 _ _ underlying38];rw [Oh]
 have P : ∀ h : Nat → Nat, ∀ j, j < 5 → (part 38 (fe h) j).run Tryz.prog w = .ok (.int .u64 ((h j : Nat) : Int)) w := fun h j hj => Nf h hj w;simp only [Op.eqItems, Nat.mul_one, Sem.run_bind, P f 0 Om, P f 1 Om, P f 2 Om, P f 3 Om, P f 4 Om, P g 0 Om, P g 1 Om, P g 2 Om, P g 3 Om, P g 4 Om, he, Result.andThen_ok, Sem.run_ite, Sem.run_pure];by_cases h0 : f 0 = g 0 <;> by_cases h1 : f 1 = g 1 <;> by_cases h2 : f 2 = g 2 <;> by_cases h3 : f 3 = g 3 <;> by_cases h4 : f 4 = g 4 <;> simp [h0, h1, h2, h3, h4]
theorem Vy {L : List (Nat × Value)} {w : aa9} {x y : Operand} {ty t' : TypeId} (hx : ev L x = some (.agg (fe f))) (hy : ev L y = some (.agg (fe g))) :
  Y Tryz.prog L w (.binOp .eql 134 x y t') ty (.bool (decide (f 0 = g 0 ∧ f 1 = g 1 ∧ f 2 = g 2 ∧ f 3 = g 3 ∧ f 4 = g 4))) := fun ρ hρ w' _ _ _ _ _ => by
 have hg := run_eqGuard_agg (P := Tryz.prog) w' .eql 134 x y (fe f) (fe g) Kr;simp [execOp, hρ _ _ hx, hρ _ _ hy, hg, OQ f g w']
attribute [local irreducible] Ef WC WK WL WM WQ Y cu
theorem Mp (ha : a < Fp.p) (hb : b < Fp.p) : (Fp.gn a 0 = Fp.gn b 0 ∧ Fp.gn a 1 = Fp.gn b 1 ∧ Fp.gn a 2 = Fp.gn b 2 ∧ Fp.gn a 3 = Fp.gn b 3 ∧ Fp.gn a 4 = Fp.gn b 4) ↔ a = b := by
 constructor
 ·rintro ⟨h0, h1, h2, h3, h4⟩;have e : Fp.val (Fp.gn a) = Fp.val (Fp.gn b) := by unfold Fp.val; rw [h0, h1, h2, h3, h4]
  unfold Fp.p at ha hb;rwa [Fp.Ay a Om, Fp.Ay b Om] at e
 rintro rfl; exact ⟨rfl, rfl, rfl, rfl, rfl⟩
theorem wM (ha : Fe cs a) (hb : Fe ds b) (w : aa9) :
  Ct 242 #[.agg cs, .agg ds] w (ck w (.bool (decide (a = b)))) := by
 have hal := ha.lt; have hbl := hb.lt;obtain ⟨f, rfl, hf, hfa⟩ := ha;obtain ⟨g, rfl, hg, hgb⟩ := hb;refine ai 10 func242 ?_;intro _ aa4;refine aU ?_;intro w1 g1 (B1 : aq _ _ _ (fe f)) YU ex;have E1 := ex;refine aU ?_;intro w2 g2 (B2 : aq _ _ _ (fe g)) YV ex;have E := E1.ext ex; replace B1 := B1.ext ex;refine aU ?_;refine aD Kr 6 rfl ?_; intro YW ex YX;obtain ⟨E,B1,B2⟩ := bh ex E B1 B2;refine zm [0, 2] ?_;refine bC 1 rfl func209 rfl (nh f _ hf) ?_;rintro e _ ⟨rfl, ex⟩;refine au 1 ?_;replace E := E.ext ex;rw [hfa];refine bC 3 rfl func209 rfl (nh g _ hg) ?_;rintro e _ ⟨rfl, ex⟩;refine au 1 ?_;replace E := E.ext ex;rw [hgb];refine my 4 rfl ((Vy rfl rfl)) ?_;refine zm [5] ?_;exact aa4 rfl ⟨dZ (Mp hal hbl), E⟩
theorem JA (ha : Fe cs a) (w : aa9) :
  Ct 243 #[.agg cs] w (ck w (.bool (decide (a = 0)))) := by
 have hsz := ha.size;refine ai 6 func243 ?_;intro _ aa4;refine aU ?_;intro w1 g1 (B1 : aq _ _ _ (cs)) YU ex;have E1 := ex;refine au 5 ?_;refine ak ((aP rfl Tn.u rfl (by rw [hsz]; kernel_rfl) B1)) ?_;refine ak (aA rfl (cells := fe (fun _ => 0)) Kr) ?_;refine aB func242 rfl (wM ha Fe.zero _) ?_;rintro e _ ⟨rfl, ex⟩;have E2 := E1.ext ex;refine aU ?_;exact aa4 rfl ⟨rfl, E2⟩
end Go.Proofs.YtgfafidlkldeaaaGreat
