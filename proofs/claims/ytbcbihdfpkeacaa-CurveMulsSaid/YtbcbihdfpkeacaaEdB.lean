/- Multiples of a point; points by quotients; the base and its order. No program in sight. -/
import Derived.Test.YtbcbihdfpkeacaaEdA
namespace Go.Proofs.Ytbcbihdfpkeacaa
namespace Ed
open Fp
theorem O_add (P : F × F) : add O P = P := by rw [add_comm, add_O]
theorem neg_add {P : F × F} (h : On P) : add (neg P) P = O := by rw [add_comm, add_neg h]
theorem neg_neg (P : F × F) : neg (neg P) = P := by
  obtain ⟨x, y⟩ := P
  unfold neg
  simp only
  have : - -x = x := by grind
  rw [this]
theorem neg_O : neg O = O := by decide +kernel
theorem add_left {P Q R : F × F} (hP : On P) (hQ : On Q) (hR : On R) (h : add P Q = add P R) : Q = R := by
  have h1 := congrArg (add (neg P)) h
  rw [← add_assoc (on_neg hP) hP hQ, ← add_assoc (on_neg hP) hP hR, neg_add hP, O_add, O_add] at h1
  exact h1
theorem neg_unique {P Q : F × F} (hP : On P) (hQ : On Q) (h : add P Q = O) : Q = neg P := add_left hP hQ (on_neg hP) (by rw [h, add_neg hP])
/-- As often. -/
def mul : Nat → F × F → F × F
  | 0, _ => O
  | n + 1, P => add (mul n P) P
theorem on_mul {P : F × F} (h : On P) : ∀ n, On (mul n P)
  | 0 => on_O
  | n + 1 => on_add (on_mul h n) h
theorem mul_one (P : F × F) : mul 1 P = P := O_add P
theorem mul_add {P : F × F} (h : On P) (m : Nat) : ∀ n, mul (m + n) P = add (mul m P) (mul n P)
  | 0 => (add_O _).symm
  | n + 1 => by
    show add (mul (m + n) P) P = add (mul m P) (add (mul n P) P)
    rw [mul_add h m n, add_assoc (on_mul h m) (on_mul h n) h]
theorem mul_two {P : F × F} (h : On P) (n : Nat) : mul (2 * n) P = add (mul n P) (mul n P) := by rw [Nat.two_mul, mul_add h]
theorem mul_O : ∀ n, mul n O = O
  | 0 => rfl
  | n + 1 => by show add (mul n O) O = O; rw [mul_O n, add_O]
theorem mul_mul {P : F × F} (h : On P) (m : Nat) : ∀ n, mul (m * n) P = mul n (mul m P)
  | 0 => rfl
  | n + 1 => by
    show mul (m * n + m) P = add (mul n (mul m P)) (mul m P)
    rw [mul_add h, mul_mul h m n]
theorem mul_sum {P Q : F × F} (h : On P) (k : On Q) : ∀ n, mul n (add P Q) = add (mul n P) (mul n Q)
  | 0 => (add_O O).symm
  | n + 1 => by
    show add (mul n (add P Q)) (add P Q) = add (add (mul n P) P) (add (mul n Q) Q)
    have h1 := on_mul h n
    have h2 := on_mul k n
    rw [mul_sum h k n, add_assoc h1 h2 (on_add h k), add_assoc h1 h (on_add h2 k), ← add_assoc h2 h k, add_comm (mul n Q) P, add_assoc h h2 k]
theorem neg_sum {P Q : F × F} (h : On P) (k : On Q) : neg (add P Q) = add (neg P) (neg Q) := by
  refine (neg_unique (on_add h k) (on_add (on_neg h) (on_neg k)) ?_).symm
  rw [add_assoc h k (on_add (on_neg h) (on_neg k)), ← add_assoc k (on_neg h) (on_neg k), add_comm Q (neg P), add_assoc (on_neg h) k (on_neg k), add_neg k, add_O, add_neg h]
theorem mul_neg {P : F × F} (h : On P) : ∀ n, mul n (neg P) = neg (mul n P)
  | 0 => neg_O.symm
  | n + 1 => by
    show add (mul n (neg P)) (neg P) = neg (add (mul n P) P)
    rw [mul_neg h n, neg_sum (on_mul h n) h]
/-- With a multiple of the order of P taken away. -/
theorem mul_mod {P : F × F} (h : On P) {L : Nat} (hL : mul L P = O) (n : Nat) : mul (n % L) P = mul n P := by
  have e := Nat.div_add_mod n L
  have : mul n P = mul (n % L) P := by
    rw [← e, mul_add h, mul_mul h, hL, mul_O, O_add, e]
  exact this.symm
/-! Points by quotients. -/
structure Q4 where
  (x y z t : F)
/-- What the four stand for. -/
def Rep (q : Q4) (P : F × F) : Prop := q.z ≠ 0 ∧ q.x = P.1 * q.z ∧ q.y = P.2 * q.z ∧ q.t * q.z = q.x * q.y
def qadd (p q : Q4) : Q4 :=
  let a := (p.y - p.x) * (q.y - q.x)
  let b := (p.y + p.x) * (q.y + q.x)
  let c := p.t * (d + d) * q.t
  let e := (p.z + p.z) * q.z
  ⟨(b - a) * (e - c), (e + c) * (b + a), (e - c) * (e + c), (b - a) * (b + a)⟩
theorem rep_t {q : Q4} {P : F × F} (h : Rep q P) : q.t = P.1 * P.2 * q.z := by
  obtain ⟨h1, h2, h3, h4⟩ := h
  refine cancel h1 ?_
  rw [h2, h3] at h4
  generalize q.t = t at *
  generalize q.z = z at *
  clear h2 h3 h1
  grind
theorem four_ne : (4 : F) ≠ 0 := by decide +kernel
theorem rep_add {p q : Q4} {P Q : F × F} (h : Rep p P) (k : Rep q Q) (hP : On P) (hQ : On Q) : Rep (qadd p q) (add P Q) := by
  have ht := rep_t h
  have kt := rep_t k
  have hx := add_x hP hQ
  have hy := add_y hP hQ
  have pp := pole_P hP hQ
  have pm := pole_M hP hQ
  obtain ⟨h1, h2, h3, _⟩ := h
  obtain ⟨k1, k2, k3, _⟩ := k
  generalize add P Q = R at *
  obtain ⟨x1, y1⟩ := P; obtain ⟨x2, y2⟩ := Q; obtain ⟨x, y⟩ := R
  obtain ⟨a, b, z1, t1⟩ := p; obtain ⟨e, f, z2, t2⟩ := q
  simp only at *
  clear hP hQ
  subst h2 h3 k2 k3 ht kt
  unfold qadd Rep
  simp only
  generalize d = D at *
  have eF : (y1 * z1 + x1 * z1) * (y2 * z2 + x2 * z2) - (y1 * z1 - x1 * z1) * (y2 * z2 - x2 * z2) = 2 * (z1 * z2) * (x1 * y2 + x2 * y1) := by grind
  have eI : (y1 * z1 + x1 * z1) * (y2 * z2 + x2 * z2) + (y1 * z1 - x1 * z1) * (y2 * z2 - x2 * z2) = 2 * (z1 * z2) * (y1 * y2 + x1 * x2) := by grind
  have eG : (z1 + z1) * z2 - x1 * y1 * z1 * (D + D) * (x2 * y2 * z2) = 2 * (z1 * z2) * (1 - D * x1 * x2 * y1 * y2) := by grind
  have eH : (z1 + z1) * z2 + x1 * y1 * z1 * (D + D) * (x2 * y2 * z2) = 2 * (z1 * z2) * (1 + D * x1 * x2 * y1 * y2) := by grind
  rw [eF, eI, eG, eH, ← hx, ← hy]
  have hz := mul_ne two_ne (mul_ne h1 k1)
  clear hx hy eF eI eG eH
  generalize 1 + D * x1 * x2 * y1 * y2 = A at *
  generalize 1 - D * x1 * x2 * y1 * y2 = B at *
  generalize 2 * (z1 * z2) = Z at *
  refine ⟨mul_ne (mul_ne hz pm) (mul_ne hz pp), ?_, ?_, ?_⟩
  · clear hz pm pp h1 k1; grind
  · clear hz pm pp h1 k1; grind
  · clear hz pm pp h1 k1; grind
def qO : Q4 := ⟨0, 1, 1, 0⟩
theorem rep_O : Rep qO O := ⟨one_ne, by decide +kernel, by decide +kernel, by decide +kernel⟩
def qof (P : F × F) : Q4 := ⟨P.1, P.2, 1, P.1 * P.2⟩
theorem rep_of (P : F × F) : Rep (qof P) P := by
  unfold qof Rep
  simp only
  refine ⟨one_ne, ?_, ?_, ?_⟩ <;> grind
/-- Two quotients of one point. -/
theorem rep_same {p q : Q4} {P Q : F × F} (h : Rep p P) (k : Rep q Q) : (p.x * q.z = q.x * p.z ∧ p.y * q.z = q.y * p.z) ↔ P = Q := by
  obtain ⟨h1, h2, h3, _⟩ := h
  obtain ⟨k1, k2, k3, _⟩ := k
  obtain ⟨x1, y1⟩ := P; obtain ⟨x2, y2⟩ := Q
  simp only at *
  rw [h2, h3, k2, k3]
  have hz := mul_ne h1 k1
  generalize p.z = z at *
  generalize q.z = u at *
  clear h2 h3 k2 k3
  constructor
  · rintro ⟨e1, e2⟩
    refine Prod.ext (cancel hz ?_) (cancel hz ?_)
    · show z * u * x1 = z * u * x2
      grind
    · show z * u * y1 = z * u * y2
      grind
  · intro e
    injection e with e1 e2
    subst e1; subst e2
    constructor <;> grind
/-- The code's product: bit by bit from the highest. -/
def qmul (p : Q4) (n : Nat) : Nat → Q4
  | 0 => qO
  | j + 1 => let o := qadd (qmul p n j) (qmul p n j); if n / 2 ^ (252 - j) % 2 = 1 then qadd o p else o
theorem rep_mul {p : Q4} {P : F × F} (h : Rep p P) (hP : On P) (n : Nat) (hn : n < 2 ^ 253) : ∀ j, j ≤ 253 → Rep (qmul p n j) (mul (n / 2 ^ (253 - j)) P)
  | 0, _ => by
    rw [Nat.sub_zero, Nat.div_eq_of_lt hn]; exact rep_O
  | j + 1, hj => by
    have ih := rep_mul h hP n hn j (by omega)
    have hm := on_mul hP (n / 2 ^ (253 - j))
    have h2 := rep_add ih ih hm hm
    rw [← mul_two hP] at h2
    have e : n / 2 ^ (253 - j) = n / 2 ^ (252 - j) / 2 := by rw [Nat.div_div_eq_div_mul, ← Nat.pow_succ, show (252 - j).succ = 253 - j from by omega]
    rw [show 253 - (j + 1) = 252 - j from by omega]
    show Rep (if n / 2 ^ (252 - j) % 2 = 1 then qadd (qadd (qmul p n j) (qmul p n j)) p else qadd (qmul p n j) (qmul p n j)) _
    by_cases hb : n / 2 ^ (252 - j) % 2 = 1
    · rw [if_pos hb]
      have h3 := rep_add h2 h (on_mul hP _) hP
      rw [show n / 2 ^ (252 - j) = 2 * (n / 2 ^ (253 - j)) + 1 from by omega]
      exact h3
    · rw [if_neg hb, show n / 2 ^ (252 - j) = 2 * (n / 2 ^ (253 - j)) from by omega]
      exact h2
def L : Nat := 7237005577332262213973186563042994240857116359379907606001950938285454250989
def B : F × F := (of 15112221349535400772501151409588531511454012693041857206046113283949847762202, of 46316835694926478169428394003475163141307993866256225615783033603165251855960)
theorem on_B : On B := by decide +kernel
theorem base_order0 : (qmul (qof B) L 253).x = 0 ∧ (qmul (qof B) L 253).y = (qmul (qof B) L 253).z := by decide +kernel
theorem L_lt : L < 2 ^ 253 := by decide +kernel
theorem base_order : mul L B = O := by
  have h := rep_mul (rep_of B) on_B L L_lt 253 (Nat.le_refl _)
  rw [Nat.sub_self, Nat.pow_zero, Nat.div_one] at h
  refine ((rep_same h rep_O).1 ?_)
  obtain ⟨h1, h2⟩ := base_order0
  rw [h1, h2]
  unfold qO
  simp only
  constructor <;> grind
end Ed
end Go.Proofs.Ytbcbihdfpkeacaa
