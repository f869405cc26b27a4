/- The field of 2^255 - 19 as a ring whose laws 'grind' knows: inverses, squares, roots. No program in sight. -/
import Derived.Test.YtopimmomkapdoaaGreatFieldS
import Derived.Test.YtopimmomkapdoaaGreatNt
namespace Go.Proofs.YtopimmomkapdoaaGreat
namespace Fp
theorem p_pos : 0 < p := by unfold p; omega
theorem p_two : 2 < p := by unfold p; omega
theorem prm : Nt.Prm p := Nt.prm_p
instance : NeZero p := ⟨by unfold p; omega⟩
/-- The field. -/
abbrev F := Fin p
def of (x : Nat) : F := ⟨x % p, Nat.mod_lt _ p_pos⟩
theorem of_val (a : F) : of a.val = a := Fin.ext (Nat.mod_eq_of_lt a.isLt)
theorem val_of (x : Nat) : (of x).val = x % p := rfl
theorem val_add (a b : F) : (a + b).val = (a.val + b.val) % p := Fin.val_add a b
theorem val_mul (a b : F) : (a * b).val = a.val * b.val % p := Fin.val_mul a b
theorem val_sub (a b : F) : (a - b).val = (a.val + p - b.val) % p := by
  have := a.isLt; have := b.isLt
  rw [Fin.sub_def]; show (p - b.val + a.val) % p = _
  congr 1; omega
theorem val_neg (a : F) : (-a).val = (p - a.val) % p := by
  rw [Fin.neg_def]
theorem val_zero : (0 : F).val = 0 := rfl
theorem val_one : (1 : F).val = 1 := rfl
theorem of_add (x y : Nat) : of (x + y) = of x + of y := Fin.ext (by rw [val_add, val_of, val_of, val_of, Nat.add_mod])
theorem of_mul (x y : Nat) : of (x * y) = of x * of y := Fin.ext (by rw [val_mul, val_of, val_of, val_of, Nat.mul_mod])
theorem of_mod (x : Nat) : of (x % p) = of x := Fin.ext (Nat.mod_mod _ _)
theorem val_inj {a b : F} : a.val = b.val ↔ a = b := ⟨Fin.ext, fun h => by rw [h]⟩
theorem val_eq_zero {a : F} : a.val = 0 ↔ a = 0 := val_inj (b := 0)
theorem zero_or {a b : F} (h : a * b = 0) : a = 0 ∨ b = 0 := by
  have hv : a.val * b.val % p = 0 := by rw [← val_mul, h]; rfl
  rcases prm.dvd_mul (Nat.dvd_of_mod_eq_zero hv) with hd | hd
  · left; exact val_eq_zero.1 (Nat.eq_zero_of_dvd_of_lt hd a.isLt)
  · right; exact val_eq_zero.1 (Nat.eq_zero_of_dvd_of_lt hd b.isLt)
theorem cancel {a b c : F} (ha : a ≠ 0) (h : a * b = a * c) : b = c := by
  have : a * (b - c) = 0 := by grind
  rcases zero_or this with h | h
  · exact absurd h ha
  · grind
/-- Powers. -/
def pow (a : F) (e : Nat) : F := of (a.val ^ e)
theorem pow_val (a : F) (e : Nat) : (pow a e).val = a.val ^ e % p := rfl
theorem pow_zero (a : F) : pow a 0 = 1 := by unfold pow; rw [Nat.pow_zero]; rfl
theorem pow_succ (a : F) (e : Nat) : pow a (e + 1) = pow a e * a := by unfold pow; rw [Nat.pow_succ, of_mul, of_val]
theorem pow_one (a : F) : pow a 1 = a := by rw [show (1 : Nat) = 0 + 1 from rfl, pow_succ, pow_zero]; grind
theorem pow_add (a : F) (m n : Nat) : pow a (m + n) = pow a m * pow a n := by
  unfold pow; rw [Nat.pow_add, of_mul]
theorem pow_mul (a : F) (m n : Nat) : pow a (m * n) = pow (pow a m) n := by
  induction n with
  | zero => rw [Nat.mul_zero, pow_zero, pow_zero]
  | succ n ih => rw [Nat.mul_succ, pow_add, ih, pow_succ]
theorem one_pow (n : Nat) : pow 1 n = 1 := by
  induction n with
  | zero => rw [pow_zero]
  | succ n ih => rw [pow_succ, ih]; grind
theorem zero_pow {n : Nat} (h : 0 < n) : pow 0 n = 0 := by
  obtain ⟨m, rfl⟩ : ∃ m, n = m + 1 := ⟨n - 1, by omega⟩
  rw [pow_succ]; grind
theorem pow_double (a : F) (n : Nat) : pow a (2 * n) = pow a n * pow a n := by rw [Nat.two_mul, pow_add]
theorem fermat {a : F} (h : a ≠ 0) : pow a (p - 1) = 1 := by
  have := Nt.fermat1 prm (a := a.val) (fun hd => h (val_eq_zero.1 (Nat.eq_zero_of_dvd_of_lt hd a.isLt)))
  exact Fin.ext this
/-- What makes 1. -/
def inv (a : F) : F := pow a (p - 2)
theorem mul_inv {a : F} (h : a ≠ 0) : a * inv a = 1 := by
  have hf := fermat h
  have hp := p_two
  rw [show p - 1 = (p - 2) + 1 by omega, pow_succ] at hf
  unfold inv; grind
theorem one_ne : (1 : F) ≠ 0 := fun h => by have := congrArg Fin.val h; rw [val_zero, val_one] at this; cases this
theorem inv_unique {a b : F} (h : a * b = 1) : b = inv a := by
  have ha : a ≠ 0 := fun hc => one_ne (by rw [← h, hc]; grind)
  exact cancel ha (by rw [h, mul_inv ha])
/-- Is it a square? -/
def half : Nat := 28948022309329048855892746252171976963317496166410141009864396001978282409974
theorem half_p : p - 1 = 2 * half := rfl
def Sqr (a : F) : Prop := pow a half = 0 ∨ pow a half = 1
instance (a : F) : Decidable (Sqr a) := inferInstanceAs (Decidable (_ ∨ _))
theorem pow_eq_zero {a : F} {n : Nat} (h : pow a n = 0) : a = 0 := by
  induction n with
  | zero => rw [pow_zero] at h; exact absurd h one_ne
  | succ n ih =>
    rw [pow_succ] at h
    rcases zero_or h with h | h
    · exact ih h
    · exact h
theorem sqr_of {a x : F} (h : x * x = a) : Sqr a := by
  by_cases hx : x = 0
  · left
    subst hx; rw [← h, show (0 : F) * 0 = 0 by grind]
    exact zero_pow (by unfold half; omega)
  · right
    rw [← h, show x * x = pow x 2 by rw [show (2 : Nat) = 2 * 1 from rfl, pow_double, pow_one], ← pow_mul, ← half_p]
    exact fermat hx
def quart : Nat := 14474011154664524427946373126085988481658748083205070504932198000989141204987
theorem half_quart : half = 2 * quart := rfl
def e8 : Nat := 7237005577332262213973186563042994240829374041602535252466099000494570602494
theorem e8_two : 2 * e8 = quart + 1 := rfl
/-- The root of -1. -/
def im : F := of 19681161376707505956807079304988542015446066515923890162744021073123829784752
theorem im_pow : pow (of 2) quart = im := Fin.ext (by
  rw [pow_val, show (of 2).val = 2 from rfl, ← Nt.pw_spec p 256 2 quart (by decide +kernel)]
  decide +kernel)
theorem im_two : im * im = -1 := by decide +kernel
/-- The first guess, and the other one. -/
def guess (a : F) : F := pow a e8
theorem guess_sq (a : F) : guess a * guess a = a * pow a quart := by
  unfold guess
  rw [← pow_double, e8_two, pow_succ]; grind
theorem guess_or {a : F} (h : Sqr a) : guess a * guess a = a ∨ (guess a * im) * (guess a * im) = a := by
  have hg := guess_sq a
  have hi := im_two
  rcases h with h | h
  · left
    obtain rfl := pow_eq_zero h
    rw [hg]; grind
  · have hq : pow a quart * pow a quart = 1 := by rw [← pow_double, ← half_quart, h]
    have : (pow a quart - 1) * (pow a quart + 1) = 0 := by grind
    rcases zero_or this with hz | hz
    · left; grind
    · right; grind
theorem neg_even {x : F} (h : x.val % 2 = 1) : (-x).val % 2 = 0 := by
  rw [val_neg]
  have hl := x.isLt
  have hp : p % 2 = 1 := by decide +kernel
  rw [show (p - x.val) % p = p - x.val from Nat.mod_eq_of_lt (by omega)]
  omega
/-- The root that is even. -/
def root (a : F) : F := let x := if guess a * guess a = a then guess a else guess a * im; if x.val % 2 = 1 then -x else x
theorem root_sq {a : F} (h : Sqr a) : root a * root a = a := by
  have h2 := guess_or h
  unfold root
  by_cases hg : guess a * guess a = a
  · simp only [if_pos hg]; split <;> grind
  · simp only [if_neg hg]
    have h3 := h2.resolve_left hg
    split <;> grind
theorem root_even (a : F) : (root a).val % 2 = 0 := by
  have key : ∀ x : F, (if x.val % 2 = 1 then -x else x).val % 2 = 0 := fun x => by
    by_cases h : x.val % 2 = 1
    · rw [if_pos h]; exact neg_even h
    · rw [if_neg h]; omega
  exact key _
theorem roots_two {x y : F} (h : x * x = y * y) : x = y ∨ x = -y := by
  have : (x - y) * (x + y) = 0 := by grind
  rcases zero_or this with h | h
  · left; grind
  · right; grind
end Fp
end Go.Proofs.YtopimmomkapdoaaGreat
