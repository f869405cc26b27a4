/- The law DhShares: two have one secret; it answers true whatever it is given. -/
import Derived.Test.YtjllhimhiekchaaFieldK
import Derived.Test.YtjllhimhiekchaaFieldS
import Derived.Test.YtjllhimhiekchaaAeB
import Derived.Test.YtjllhimhiekchaaFieldQ
/- The curve -x^2 + y^2 = 1 + d x^2 y^2 over the field of 2^255 - 19: its points are a group. No program in sight. Multiples of a point; points by quotients; the base and its order. No program in sight. -/
namespace Go.Proofs.Ytjllhimhiekchaa
section
namespace Ed
open Fp
def d : F := of 37095705934669439343138083508754565189542113879843219016388785533085940283555
theorem d_no : pow d half = -1 := Fin.ext (by
  rw [pow_val, show d.val = 37095705934669439343138083508754565189542113879843219016388785533085940283555 from rfl, ← Nt.pw_spec p 256 _ half (by decide +kernel)]
  decide +kernel)
theorem two_ne : (2 : F) ≠ 0 := by decide +kernel
theorem no_sqr : ¬ Sqr d := fun h => by
  have h1 := d_no
  rcases h with h | h
  · rw [h] at h1; exact absurd h1 (by decide +kernel)
  · rw [h] at h1; exact absurd h1 (by decide +kernel)
theorem im_sq : im * im = -1 := by decide +kernel
def On (P : F × F) : Prop := P.2 * P.2 - P.1 * P.1 = 1 + d * P.1 * P.1 * P.2 * P.2
instance (P : F × F) : Decidable (On P) := inferInstanceAs (Decidable (_ = _))
def add (P Q : F × F) : F × F := ((P.1 * Q.2 + Q.1 * P.2) * inv (1 + d * P.1 * Q.1 * P.2 * Q.2), (P.2 * Q.2 + P.1 * Q.1) * inv (1 - d * P.1 * Q.1 * P.2 * Q.2))
def O : F × F := (0, 1)
def neg (P : F × F) : F × F := (-P.1, P.2)
/-- No square is d times a square but 0. -/
theorem d_sqr {a b : F} (h : a * a = d * (b * b)) : b = 0 := by
  by_cases hb : b = 0
  · exact hb
  · exfalso
    apply no_sqr
    have hi := mul_inv hb
    refine sqr_of (x := a * inv b) ?_
    have : a * inv b * (a * inv b) = (a * a) * (inv b * inv b) := by grind
    rw [this, h]
    have h2 : d * (b * b) * (inv b * inv b) = d * ((b * inv b) * (b * inv b)) := by grind
    rw [h2, hi]; grind
theorem ring0 (e : F) : (1 : F) + e * 0 * 0 * 0 * 0 = 1 := by
  have h : e * 0 * 0 * 0 * 0 = 0 := by grind
  rw [h]; decide +kernel
theorem ring1 : (0 : F) * 0 - 0 * 0 = 0 := by decide +kernel
theorem sq_ne {x y : F} (h : On (x, y)) : ¬ (x = 0 ∧ y = 0) := fun ⟨h1, h2⟩ => by
  subst h1; subst h2
  unfold On at h
  simp only at h
  rw [ring0, ring1] at h
  exact one_ne h.symm
theorem mul_ne {a b : F} (ha : a ≠ 0) (hb : b ≠ 0) : a * b ≠ 0 := fun h => (zero_or h).elim ha hb
/-- The sum has no exception. -/
theorem no_pole {x1 y1 x2 y2 e : F} (h1 : On (x1, y1)) (h2 : On (x2, y2)) (he : e * e = 1) : d * x1 * x2 * y1 * y2 ≠ e := fun hc => by
  unfold On at h1 h2
  simp only at h1 h2
  have hi := im_sq
  have hd : d * (im * im) = -d := by rw [hi]; grind
  have hen : e ≠ 0 := fun h0 => one_ne (by rw [← he, h0]; grind)
  have hxy : x1 * y1 ≠ 0 := fun h0 => hen (by rw [← hc]; grind)
  -- (i x1 + e' y1)^2 = - d x1^2 y1^2 (i x2 + y2)^2 , both signs
  have a1 : (im * x1 + e * y1) * (im * x1 + e * y1) = d * ((x1 * y1 * (im * x2 + y2)) * (x1 * y1 * (im * x2 + y2))) := by grind
  have a2 : (im * x1 - e * y1) * (im * x1 - e * y1) = d * ((x1 * y1 * (im * x2 - y2)) * (x1 * y1 * (im * x2 - y2))) := by grind
  have him : im ≠ 0 := fun h0 => one_ne (by rw [h0] at hi; grind)
  have c1 := (zero_or (d_sqr a1)).resolve_left hxy
  have c2 := (zero_or (d_sqr a2)).resolve_left hxy
  have hy : 2 * y2 = 0 := by grind
  have hy' := (zero_or hy).resolve_left two_ne
  have hx : im * x2 = 0 := by grind
  exact sq_ne (x := x2) (y := y2) (by unfold On; exact h2) ⟨(zero_or hx).resolve_left him, hy'⟩
theorem pole_p {x1 y1 x2 y2 : F} (h1 : On (x1, y1)) (h2 : On (x2, y2)) : 1 + d * x1 * x2 * y1 * y2 ≠ 0 := fun h =>
  no_pole h1 h2 (e := -1) (by decide +kernel) (by grind)
theorem pole_m {x1 y1 x2 y2 : F} (h1 : On (x1, y1)) (h2 : On (x2, y2)) : 1 - d * x1 * x2 * y1 * y2 ≠ 0 := fun h =>
  no_pole h1 h2 (e := 1) (by decide +kernel) (by grind)
theorem assocx {x1 y1 x2 y2 x3 y3 : F} (E1 : On (x1, y1)) (E2 : On (x2, y2)) (E3 : On (x3, y3)) :
    ((x1*y2+x2*y1)*(1-d*x1*x2*y1*y2)*y3 + x3*(y1*y2+x1*x2)*(1+d*x1*x2*y1*y2)) * ((1-d*x2*x3*y2*y3)*(1+d*x2*x3*y2*y3) + d*x1*y1*(x2*y3+x3*y2)*(y2*y3+x2*x3))
    = (x1*(y2*y3+x2*x3)*(1+d*x2*x3*y2*y3) + (x2*y3+x3*y2)*(1-d*x2*x3*y2*y3)*y1) * ((1-d*x1*x2*y1*y2)*(1+d*x1*x2*y1*y2) + d*x3*y3*(x1*y2+x2*y1)*(y1*y2+x1*x2)) := by
  unfold On at E1 E2 E3
  simp only at E1 E2 E3
  generalize d = e at *
  grind
theorem assocy {x1 y1 x2 y2 x3 y3 : F} (E1 : On (x1, y1)) (E2 : On (x2, y2)) (E3 : On (x3, y3)) :
    ((y1*y2+x1*x2)*(1+d*x1*x2*y1*y2)*y3 + x3*(x1*y2+x2*y1)*(1-d*x1*x2*y1*y2)) * ((1-d*x2*x3*y2*y3)*(1+d*x2*x3*y2*y3) - d*x1*y1*(x2*y3+x3*y2)*(y2*y3+x2*x3))
    = (y1*(y2*y3+x2*x3)*(1+d*x2*x3*y2*y3) + (x2*y3+x3*y2)*(1-d*x2*x3*y2*y3)*x1) * ((1-d*x1*x2*y1*y2)*(1+d*x1*x2*y1*y2) - d*x3*y3*(x1*y2+x2*y1)*(y1*y2+x1*x2)) := by
  unfold On at E1 E2 E3
  simp only at E1 E2 E3
  generalize d = e at *
  grind
theorem onadd {x1 y1 x2 y2 : F} (E1 : On (x1, y1)) (E2 : On (x2, y2)) :
    ((y1*y2+x1*x2)*(1+d*x1*x2*y1*y2))*((y1*y2+x1*x2)*(1+d*x1*x2*y1*y2)) - ((x1*y2+x2*y1)*(1-d*x1*x2*y1*y2))*((x1*y2+x2*y1)*(1-d*x1*x2*y1*y2))
    = ((1-d*x1*x2*y1*y2)*(1+d*x1*x2*y1*y2))*((1-d*x1*x2*y1*y2)*(1+d*x1*x2*y1*y2)) + d * ((y1*y2+x1*x2)*(y1*y2+x1*x2)) * ((x1*y2+x2*y1)*(x1*y2+x2*y1)) := by
  unfold On at E1 E2
  simp only at E1 E2
  generalize d = e at *
  grind
/-- Quotients. -/
theorem eq_div {a b c : F} (hb : b ≠ 0) (h : a = c * b) : c = a * inv b := by
  have := mul_inv hb
  grind
theorem div_mul {a b : F} (hb : b ≠ 0) : a * inv b * b = a := by
  have := mul_inv hb
  grind
theorem pole_P {P Q : F × F} (h1 : On P) (h2 : On Q) : 1 + d * P.1 * Q.1 * P.2 * Q.2 ≠ 0 := pole_p (x1 := P.1) (y1 := P.2) (x2 := Q.1) (y2 := Q.2) h1 h2
theorem pole_M {P Q : F × F} (h1 : On P) (h2 : On Q) : 1 - d * P.1 * Q.1 * P.2 * Q.2 ≠ 0 := pole_m (x1 := P.1) (y1 := P.2) (x2 := Q.1) (y2 := Q.2) h1 h2
theorem add_x {P Q : F × F} (h1 : On P) (h2 : On Q) : (add P Q).1 * (1 + d * P.1 * Q.1 * P.2 * Q.2) = P.1 * Q.2 + Q.1 * P.2 := div_mul (pole_p h1 h2)
theorem add_y {P Q : F × F} (h1 : On P) (h2 : On Q) : (add P Q).2 * (1 - d * P.1 * Q.1 * P.2 * Q.2) = P.2 * Q.2 + P.1 * Q.1 := div_mul (pole_m h1 h2)
theorem on_add {P Q : F × F} (h1 : On P) (h2 : On Q) : On (add P Q) := by
  obtain ⟨x1, y1⟩ := P
  obtain ⟨x2, y2⟩ := Q
  have hx := add_x h1 h2
  have hy := add_y h1 h2
  have hp := pole_p h1 h2
  have hm := pole_m h1 h2
  have ho := onadd h1 h2
  generalize add (x1, y1) (x2, y2) = R at *
  obtain ⟨x, y⟩ := R
  simp only at hx hy
  unfold On
  simp only
  have hpm := mul_ne (mul_ne hp hm) (mul_ne hp hm)
  refine cancel hpm ?_
  generalize d = e at *
  generalize hp1 : 1 + e * x1 * x2 * y1 * y2 = s at *
  generalize hm1 : 1 - e * x1 * x2 * y1 * y2 = t at *
  rw [← hx, ← hy] at ho
  clear hx hy hp hm hp1 hm1 hpm h1 h2
  grind
theorem on_O : On O := by decide +kernel
theorem add_comm (P Q : F × F) : add P Q = add Q P := by
  obtain ⟨x1, y1⟩ := P
  obtain ⟨x2, y2⟩ := Q
  unfold add
  simp only
  have e1 : x1 * y2 + x2 * y1 = x2 * y1 + x1 * y2 := by grind
  have e2 : y1 * y2 + x1 * x2 = y2 * y1 + x2 * x1 := by grind
  have e3 : d * x1 * x2 * y1 * y2 = d * x2 * x1 * y2 * y1 := by grind
  rw [e1, e2, e3]
theorem inv_one : inv (1 : F) = 1 := (inv_unique (a := 1) (b := 1) (by decide +kernel)).symm
theorem add_O (P : F × F) : add P O = P := by
  obtain ⟨x, y⟩ := P
  unfold add O
  simp only
  have e1 : x * 1 + 0 * y = x := by grind
  have e2 : y * 1 + x * 0 = y := by grind
  have e3 : d * x * 0 * y * 1 = 0 := by grind
  have e4 : (1 : F) + 0 = 1 := by decide +kernel
  have e5 : (1 : F) - 0 = 1 := by decide +kernel
  rw [e1, e2, e3, e4, e5, inv_one]
  clear e1 e2 e3 e4 e5
  have e6 : x * 1 = x := by grind
  have e7 : y * 1 = y := by grind
  rw [e6, e7]
theorem fin_div {A B n m u r : F} (hA : A ≠ 0) (hB : B ≠ 0) (hu : u * A = n) (hr : r * B = m) (key : n * B = m * A) : u = r := by
  refine cancel (mul_ne hA hB) ?_
  rw [← hu, ← hr] at key
  clear hu hr hA hB
  grind
theorem add_assoc {P Q R : F × F} (h1 : On P) (h2 : On Q) (h3 : On R) : add (add P Q) R = add P (add Q R) := by
  have h12 := on_add h1 h2
  have h23 := on_add h2 h3
  have x12 := add_x h1 h2
  have y12 := add_y h1 h2
  have x23 := add_x h2 h3
  have y23 := add_y h2 h3
  have xl := add_x h12 h3
  have yl := add_y h12 h3
  have xr := add_x h1 h23
  have yr := add_y h1 h23
  have pl := pole_P h12 h3
  have ml := pole_M h12 h3
  have pr := pole_P h1 h23
  have mr := pole_M h1 h23
  have p12 := pole_P h1 h2
  have m12 := pole_M h1 h2
  have p23 := pole_P h2 h3
  have m23 := pole_M h2 h3
  have ax := assocx h1 h2 h3
  have ay := assocy h1 h2 h3
  generalize add (add P Q) R = L at *
  generalize add P (add Q R) = M at *
  generalize add P Q = S at *
  generalize add Q R = T at *
  obtain ⟨x1, y1⟩ := P; obtain ⟨x2, y2⟩ := Q; obtain ⟨x3, y3⟩ := R; obtain ⟨a, b⟩ := S; obtain ⟨f, g⟩ := T; obtain ⟨u, v⟩ := L; obtain ⟨r, s⟩ := M
  simp only at *
  clear h1 h2 h3 h12 h23
  have hne := mul_ne (mul_ne p12 m12) (mul_ne p23 m23)
  generalize d = e at *
  refine Prod.ext ?_ ?_
  · show u = r
    refine fin_div pl pr xl xr (cancel hne ?_)
    rw [← x12, ← y12, ← x23, ← y23] at ax
    clear xl yl xr yr pl ml pr mr ay x12 y12 x23 y23 hne p12 m12 p23 m23
    generalize 1 + e * x1 * x2 * y1 * y2 = A at *
    generalize 1 - e * x1 * x2 * y1 * y2 = B at *
    generalize 1 + e * x2 * x3 * y2 * y3 = C at *
    generalize 1 - e * x2 * x3 * y2 * y3 = D at *
    grind
  · show v = s
    refine fin_div ml mr yl yr (cancel hne ?_)
    rw [← x12, ← y12, ← x23, ← y23] at ay
    clear xl yl xr yr pl ml pr mr ax x12 y12 x23 y23 hne p12 m12 p23 m23
    generalize 1 + e * x1 * x2 * y1 * y2 = A at *
    generalize 1 - e * x1 * x2 * y1 * y2 = B at *
    generalize 1 + e * x2 * x3 * y2 * y3 = C at *
    generalize 1 - e * x2 * x3 * y2 * y3 = D at *
    grind
end Ed
end
section
namespace Ed
open Fp
theorem O_add (P : F × F) : add O P = P := by rw [add_comm, add_O]
/-- As often. -/
def mul : Nat → F × F → F × F
  | 0, _ => O
  | n + 1, P => add (mul n P) P
theorem on_mul {P : F × F} (h : On P) : ∀ n, On (mul n P)
  | 0 => on_O
  | n + 1 => on_add (on_mul h n) h
theorem mul_one (P : F × F) : mul 1 P = P := O_add P
theorem mul_add {P : F × F} (h : On P) (m : Nat) : ∀ n, mul (m + n) P = add (mul m P) (mul n P)
  | 0 => (add_O _).symm
  | n + 1 => by
    show add (mul (m + n) P) P = add (mul m P) (add (mul n P) P)
    rw [mul_add h m n, add_assoc (on_mul h m) (on_mul h n) h]
theorem mul_O : ∀ n, mul n O = O
  | 0 => rfl
  | n + 1 => by show add (mul n O) O = O; rw [mul_O n, add_O]
theorem mul_mul {P : F × F} (h : On P) (m : Nat) : ∀ n, mul (m * n) P = mul n (mul m P)
  | 0 => rfl
  | n + 1 => by
    show mul (m * n + m) P = add (mul n (mul m P)) (mul m P)
    rw [mul_add h, mul_mul h m n]
/-- With a multiple of the order of P taken away. -/
theorem mul_mod {P : F × F} (h : On P) {L : Nat} (hL : mul L P = O) (n : Nat) : mul (n % L) P = mul n P := by
  have e := Nat.div_add_mod n L
  have : mul n P = mul (n % L) P := by
    rw [← e, mul_add h, mul_mul h, hL, mul_O, O_add, e]
  exact this.symm
/-! Points by quotients. -/
structure Q4 where
  (x y z t : F)
/-- What the four stand for. -/
def Rep (q : Q4) (P : F × F) : Prop := q.z ≠ 0 ∧ q.x = P.1 * q.z ∧ q.y = P.2 * q.z ∧ q.t * q.z = q.x * q.y
def L : Nat := 7237005577332262213973186563042994240857116359379907606001950938285454250989
def B : F × F := (of 15112221349535400772501151409588531511454012693041857206046113283949847762202, of 46316835694926478169428394003475163141307993866256225615783033603165251855960)
end Ed
end
end Go.Proofs.Ytjllhimhiekchaa

/- The ladder is the product of a point: by y = (u - 1) / (u + 1). No program in sight. Points as 32 bytes: told and read. No program in sight. -/
namespace Go.Proofs.Ytjllhimhiekchaa
section
namespace Ed
open Fp
/-- A quotient of u for a point. -/
def K (X Z : F) (P : F × F) : Prop := X - Z = P.2 * (X + Z) ∧ X + Z ≠ 0
end Ed
end
section
namespace Ed
open Fp
def top : Nat := 57896044618658097711785492504343953926634992332820282019728792003956564819968
def enc (P : F × F) : List UInt8 := le 32 (P.2.val + top * (P.1.val % 2))
theorem ofB_le (x : F) : of (ofB (le 32 x.val)) = x := by
  have hl := x.isLt
  have hv : num (le 32 x.val) = x.val := le_num 32 x.val (by unfold p at hl; omega)
  unfold ofB
  rw [List.take_of_length_le (by rw [le_length]; omega), hv, show x.val % 57896044618658097711785492504343953926634992332820282019728792003956564819968 = x.val from Nat.mod_eq_of_lt (by unfold p at hl; omega), Nat.mod_eq_of_lt hl, of_val]
end Ed
end
end Go.Proofs.Ytjllhimhiekchaa

/- dh's Mul, Base, Shared, and the reference's Clamp: what each hands back. -/
namespace Go.Proofs.Ytjllhimhiekchaa
open Go.RowKit
attribute [local irreducible] Y Ef WL WC WK WQ WM OpM WN WF OpN
/-- A product, or why there is none. -/
def dhM (xs ys : List UInt8) : List UInt8 × Nat := if xs.length ≠ 32 then ([], 1) else if ys.length ≠ 32 then ([], 3) else (Fp.le 32 (dhMul (Fp.num (clampB xs)) (Fp.of (Fp.ofB ys))).val, 0)
def dhS (xs ys : List UInt8) : List UInt8 × Nat := if (dhM xs ys).2 ≠ 0 then ([], (dhM xs ys).2) else if (dhM xs ys).1.any (fun x => decide (x ≠ 0)) then ((dhM xs ys).1, 0) else ([], 9)
/-- Bytes and an error's number; the bytes are new. -/
def RetB (w : World) (r : List UInt8 × Nat) (e : Ending) (w' : World) : Prop := ∃ A k c, e = .returned (.tuple #[.slice A k c, .int .u8 (r.2 : Int)]) ∧ Bs w' A k r.1 ∧ (∀ b o, A = some ⟨b, o, none⟩ → w.heap.size ≤ b) ∧ Ext w w'
theorem dhmul_any (A B : Option Addr) (n c m d : Nat) (xs ys : List UInt8) (w : World) (HA : Bs w A n xs) (HB : Bs w B m ys) :
    Calls Try.prog 31 #[.slice A n c, .slice B m d] w (RetB w (dhM xs ys)) := by
  have hx := HA.1; have hy := HB.1
  refine vc_enter2 19 Try.func31 rfl rfl rfl rfl ?_
  intro Q hret
  refine wc_seq ?_; intro K1 hK1
  refine wc_region ?_
  refine wl_y (y_assign rfl) rfl ?_
  refine wl_y (y_assign rfl) rfl ?_
  refine wl_nil ?_
  refine wq_then_norm (hK1 ?_)
  refine wc_seq ?_; intro K2 hK2
  refine wc_block ?_
  refine wc_seq ?_; intro K3 hK3
  refine wc_region ?_
  refine wl_y (y_move rfl) rfl ?_
  refine wl_y (y_len_slice rfl Try.underlying22) rfl ?_
  refine wl_y (y_neq rfl rfl) rfl ?_
  refine wl_y (y_assign rfl) rfl ?_
  refine wl_nil ?_
  refine wq_then_norm (hK3 ?_)
  refine wc_dec rfl (fun hc1 => ?_) (fun hc1 => ?_)
  · skip
    refine wc_seq ?_; intro K4 hK4
    refine wc_region ?_
    refine wl_y (y_assign rfl) rfl ?_
    refine wl_y (y_assign rfl) rfl ?_
    refine wl_nil ?_
    refine wq_then_norm (hK4 ?_)
    refine wc_ret ?_
    refine wq_blk_ret ?_
    refine wq_then_ret ?_
    refine hret rfl rfl ?_
    exact ⟨none, 0, 0, by rw [dhM, if_pos (by omega)]; rfl, by rw [dhM, if_pos (by omega)]; exact Bs.nil _ _, fun _ _ h => (by cases h), Ext.refl _⟩
  · skip
    refine wc_seq ?_; intro K5 hK5
    refine wc_region ?_
    refine wl_y (y_move rfl) rfl ?_
    refine wl_y (y_len_slice rfl Try.underlying22) rfl ?_
    refine wl_y (y_neq rfl rfl) rfl ?_
    refine wl_y (y_assign rfl) rfl ?_
    refine wl_nil ?_
    refine wq_then_norm (hK5 ?_)
    refine wc_dec rfl (fun hc2 => ?_) (fun hc2 => ?_)
    · skip
      refine wc_seq ?_; intro K6 hK6
      refine wc_region ?_
      refine wl_y (y_assign rfl) rfl ?_
      refine wl_y (y_assign rfl) rfl ?_
      refine wl_nil ?_
      refine wq_then_norm (hK6 ?_)
      refine wc_ret ?_
      refine wq_blk_ret ?_
      refine wq_then_ret ?_
      refine hret rfl rfl ?_
      exact ⟨none, 0, 0, by rw [dhM, if_neg (by omega), if_pos (by omega)]; rfl, by rw [dhM, if_neg (by omega), if_pos (by omega)]; exact Bs.nil _ _, fun _ _ h => (by cases h), Ext.refl _⟩
    · skip
      refine wc_skip ?_
      refine wq_blk_norm ?_
      refine wq_then_norm (hK2 ?_)
      refine wc_seq ?_; intro K7 hK7
      have hM : dhM xs ys = (Fp.le 32 (dhMul (Fp.num (clampB xs)) (Fp.of (Fp.ofB ys))).val, 0) := by rw [dhM, if_neg (by omega), if_neg (by omega)]
      refine wc_region ?_
      refine wl_y (y_move rfl) rfl ?_
      refine wl_call Try.func53 rfl rfl rfl (clamp_any A n c xs _ HA) rfl ?_
      rintro e w1 ⟨g1, rfl, H1, ex⟩
      refine ⟨_, rfl, ?_⟩
      replace HB := HB.ext ex
      have E1 := ex
      refine wl_y (y_move rfl) rfl ?_
      refine wl_call Try.func54 rfl rfl rfl (Fof_any B m d ys _ HB) rfl ?_
      rintro e w2 ⟨c2, rfl, F2, ex⟩
      refine ⟨_, rfl, ?_⟩
      replace HB := HB.ext ex
      replace H1 := H1.ext ex
      obtain ⟨f2, rfl, F2⟩ := F2.fe; have E2 := E1.ext ex
      refine wl_call Try.func52 rfl rfl rfl (product_any _ 32 _ f2 _ _ H1 F2) rfl ?_
      rintro e w3 ⟨g3, rfl, hg3, B3, ex⟩
      refine ⟨_, rfl, ?_⟩
      replace HB := HB.ext ex
      replace H1 := H1.ext ex
      have E3 := E2.ext ex; have hs := E2.size
      refine wl_y (y_assign rfl) rfl ?_
      refine wl_y (y_assign rfl) rfl ?_
      refine wl_nil ?_
      refine wq_then_norm (hK7 ?_)
      refine wc_ret ?_
      refine hret rfl rfl ?_
      exact ⟨some ⟨g3, 0, none⟩, 32, 32, by rw [hM]; rfl, by rw [hM]; exact bs_blk' B3 (Fp.le_length 32 _), fun b o h => by injection h with h; injection h with h; omega, E3⟩
theorem dhbase_any (A : Option Addr) (n c : Nat) (xs : List UInt8) (w : World) (HA : Bs w A n xs) :
    Calls Try.prog 12 #[.slice A n c] w (RetB w (dhM xs (Fp.le 32 9))) := by
  refine vc_enter2 10 Try.func12 rfl rfl rfl rfl ?_
  intro Q hret
  refine wc_seq ?_; intro K1 hK1
  refine wc_region ?_
  refine wl_y (y_assign rfl) rfl ?_
  refine wl_y (y_assign rfl) rfl ?_
  refine wl_nil ?_
  refine wq_then_norm (hK1 ?_)
  refine wc_seq ?_; intro K2 hK2
  refine wc_region ?_
  refine wl_y (y_move rfl) rfl ?_
  refine wl_call Try.func32 rfl rfl rfl (Fnum_any 9 _ (by omega)) rfl ?_
  rintro e w1 ⟨c1, rfl, F1, ex⟩
  refine ⟨_, rfl, ?_⟩
  replace HA := HA.ext ex
  have E1 := ex
  refine wl_call Try.func33 rfl rfl rfl (fbytes_any F1 _) rfl ?_
  rintro e w2 ⟨g2, rfl, hg2, B2, ex⟩
  refine ⟨_, rfl, ?_⟩
  replace HA := HA.ext ex
  have E2 := E1.ext ex; have H2 := bs_blk' B2 (Fp.le_length 32 _)
  refine wl_call Try.func31 rfl rfl rfl (dhmul_any A _ n c 32 32 xs (Fp.le 32 9) _ HA H2) rfl ?_
  rintro e w3 ⟨A3, k3, c3, rfl, H3, hf, ex⟩
  refine ⟨_, rfl, ?_⟩
  replace HA := HA.ext ex
  have E3 := E2.ext ex; have hs := E2.size
  refine wl_y (y_extract rfl rfl) rfl ?_
  refine wl_y (y_extract rfl rfl) rfl ?_
  refine wl_y (y_assign rfl) rfl ?_
  refine wl_y (y_assign rfl) rfl ?_
  refine wl_nil ?_
  refine wq_then_norm (hK2 ?_)
  refine wc_ret ?_
  refine hret rfl rfl ?_
  exact ⟨A3, k3, c3, rfl, H3, fun b o h => by have := hf b o h; omega, E3⟩
theorem dhshared_any (A B : Option Addr) (n c m d : Nat) (xs ys : List UInt8) (w : World) (HA : Bs w A n xs) (HB : Bs w B m ys) :
    Calls Try.prog 16 #[.slice A n c, .slice B m d] w (RetB w (dhS xs ys)) := by
  refine vc_enter2 23 Try.func16 rfl rfl rfl rfl ?_
  intro Q hret
  refine wc_seq ?_; intro K1 hK1
  refine wc_region ?_
  refine wl_y (y_assign rfl) rfl ?_
  refine wl_y (y_assign rfl) rfl ?_
  refine wl_nil ?_
  refine wq_then_norm (hK1 ?_)
  refine wc_seq ?_; intro K2 hK2
  refine wc_region ?_
  refine wl_y (y_move rfl) rfl ?_
  refine wl_y (y_move rfl) rfl ?_
  refine wl_call Try.func31 rfl rfl rfl (dhmul_any A B n c m d xs ys _ HA HB) rfl ?_
  rintro e w1 ⟨A1, k1, c1, rfl, H1, hf, ex⟩
  refine ⟨_, rfl, ?_⟩
  have E1 := ex; have hl1 := H1.1; have hk : k1 ≤ 32 := by rw [← hl1]; unfold dhM; split <;> (try split) <;> simp [Fp.le_length]
  refine wl_y (y_move rfl) rfl ?_
  refine wl_y (y_extract rfl rfl) rfl ?_
  refine wl_y (y_extract rfl rfl) rfl ?_
  refine wl_y (y_assign rfl) rfl ?_
  refine wl_y (y_assign rfl) rfl ?_
  refine wl_nil ?_
  refine wq_then_norm (hK2 ?_)
  refine wc_seq ?_; intro K3 hK3
  refine wc_block ?_
  refine wc_seq ?_; intro K4 hK4
  refine wc_region ?_
  refine wl_y (y_move rfl) rfl ?_
  refine wl_y (y_neq rfl rfl) rfl ?_
  refine wl_y (y_assign rfl) rfl ?_
  refine wl_nil ?_
  refine wq_then_norm (hK4 ?_)
  refine wc_dec rfl (fun hc1 => ?_) (fun hc1 => ?_)
  · skip
    refine wc_seq ?_; intro K5 hK5
    refine wc_region ?_
    refine wl_y (y_move rfl) rfl ?_
    refine wl_y (y_assign rfl) rfl ?_
    refine wl_y (y_assign rfl) rfl ?_
    refine wl_nil ?_
    refine wq_then_norm (hK5 ?_)
    refine wc_ret ?_
    refine wq_blk_ret ?_
    refine wq_then_ret ?_
    refine hret rfl rfl ?_
    exact ⟨none, 0, 0, by rw [dhS, if_pos (by omega)], by rw [dhS, if_pos (by omega)]; exact Bs.nil _ _, fun _ _ h => (by cases h), E1⟩
  · skip
    refine wc_seq ?_; intro K6 hK6
    refine wc_region ?_
    refine wl_y (y_move rfl) rfl ?_
    refine wl_call Try.func36 rfl rfl rfl (containsFunc_any A1 k1 c1 _ 37 [] (fun x => decide (x ≠ 0)) _ _ _ H1 (by omega) Try.func37 rfl rfl (fun x w1 _ => shared1_any x w1)) rfl ?_
    rintro e w2 ⟨rfl, ex⟩
    refine ⟨_, rfl, ?_⟩
    have E2 := E1.ext ex; have H2 := H1.ext ex
    refine wl_y (y_not rfl) rfl ?_
    refine wl_y (y_assign rfl) rfl ?_
    refine wl_nil ?_
    refine wq_then_norm (hK6 ?_)
    refine wc_cond rfl (fun hc2 => ?_) (fun hc2 => ?_)
    · skip
      have hno : ¬ (dhM xs ys).1.any (fun x => decide (x ≠ 0)) = true := by simpa using hc2
      refine wc_seq ?_; intro K7 hK7
      refine wc_region ?_
      refine wl_y (y_assign rfl) rfl ?_
      refine wl_y (y_assign rfl) rfl ?_
      refine wl_nil ?_
      refine wq_then_norm (hK7 ?_)
      refine wc_ret ?_
      refine wq_blk_ret ?_
      refine wq_then_ret ?_
      refine hret rfl rfl ?_
      exact ⟨none, 0, 0, by rw [dhS, if_neg (by omega), if_neg hno]; rfl, by rw [dhS, if_neg (by omega), if_neg hno]; exact Bs.nil _ _, fun _ _ h => (by cases h), E2⟩
    · skip
      have hno : (dhM xs ys).1.any (fun x => decide (x ≠ 0)) = true := by simpa using hc2
      refine wc_skip ?_
      refine wq_blk_norm ?_
      refine wq_then_norm (hK3 ?_)
      refine wc_seq ?_; intro K8 hK8
      refine wc_region ?_
      refine wl_y (y_move rfl) rfl ?_
      refine wl_y (y_assign rfl) rfl ?_
      refine wl_y (y_assign rfl) rfl ?_
      refine wl_nil ?_
      refine wq_then_norm (hK8 ?_)
      refine wc_ret ?_
      refine hret rfl rfl ?_
      exact ⟨A1, k1, c1, by rw [dhS, if_neg (by omega), if_pos hno]; rfl, by rw [dhS, if_neg (by omega), if_pos hno]; exact H2, hf, E2⟩
end Go.Proofs.Ytjllhimhiekchaa

/- The reference's product of a key and a point: what it hands back. -/
namespace Go.Proofs.Ytjllhimhiekchaa
open Go.RowKit
attribute [local irreducible] Y Ef WL WC WK WQ WM OpM WN WF OpN
/-- What holds a slice holds no number. -/
theorem cell_noint {w : World} {g : Nat} {t : TypeId} {A0 A1 : Option Addr} {n0 c0 n1 c1 : Nat} (B : Blk w g t #[.slice A0 n0 c0, .slice A1 n1 c1]) {i : Nat} {k : IntKind} {z : Int} (h : w.cell? ⟨g, i, none⟩ = some (.int k z)) : False := by
  rw [B.cell] at h
  match i, h with
  | 0, h => cases h
  | 1, h => cases h
  | i + 2, h => simp at h
theorem Ns.apart {w w' : World} {k : IntKind} {A : Option Addr} {n g : Nat} {t : TypeId} {xs : List Nat} {A0 A1 : Option Addr} {n0 c0 n1 c1 : Nat} (h : Ns k w A n xs) (B : Blk w g t #[.slice A0 n0 c0, .slice A1 n1 c1]) (cg : Chg w g w') : Ns k w' A n xs := by
  rcases Nat.eq_zero_or_pos n with h0 | h0
  · subst h0
    have : xs = [] := List.length_eq_zero_iff.1 h.1
    subst this
    exact Ns.nil w' A
  · refine h.chg cg fun b off hA e => ?_
    obtain ⟨b', off', x, hA', _, hc⟩ := h.cell h0
    rw [hA] at hA'
    injection hA' with hA'
    injection hA' with hA' _ _
    subst hA'
    rw [e] at hc
    exact cell_noint B hc
theorem Bs.apart {w w' : World} {A : Option Addr} {n g : Nat} {t : TypeId} {xs : List UInt8} {A0 A1 : Option Addr} {n0 c0 n1 c1 : Nat} (h : Bs w A n xs) (B : Blk w g t #[.slice A0 n0 c0, .slice A1 n1 c1]) (cg : Chg w g w') : Bs w' A n xs := by
  rcases Nat.eq_zero_or_pos n with h0 | h0
  · subst h0
    have : xs = [] := List.length_eq_zero_iff.1 h.1
    subst this
    exact Bs.nil w' A
  · refine h.chg cg fun b off hA e => ?_
    obtain ⟨b', off', hA', _, hc⟩ := h.get h0
    rw [hA] at hA'
    injection hA' with hA'
    injection hA' with hA' _ _
    subst hA'
    rw [e] at hc
    exact cell_noint B hc
end Go.Proofs.Ytjllhimhiekchaa

/- The laws of layer 7: alive, DhMuls: they answer true whatever they are given. -/
namespace Go.Proofs.Ytjllhimhiekchaa
open Go.RowKit
attribute [local irreducible] Y Ef WL WC WK WQ WM OpM WN WF OpN
theorem sameE_any (A B : Option Addr) (n m c d : Nat) (xs ys : List UInt8) (w : World) (ha : Bs w A n xs) (hb : Bs w B m ys) (hn : n ≤ 140737488355328) (hm : m ≤ 140737488355328) :
    Calls Try.prog 13 #[.slice A n c, .slice B m d] w fun e w' => e = .returned (.bool (decide (xs = ys))) ∧ Ext w w' :=
  (same_any A B n m c d xs ys w ha hb hn hm).mono fun _ _ ⟨h, k, hk⟩ => ⟨h, hk ▸ Ext.drewN w k⟩
end Go.Proofs.Ytjllhimhiekchaa

namespace Go.Proofs.Ytjllhimhiekchaa
open Go.RowKit
attribute [local irreducible] Y Ef WL WC WK WQ WM OpM WN WF OpN
theorem dhM_ok {xs : List UInt8} {u : Fp.F} (hx : xs.length = 32) : dhM xs (Fp.le 32 u.val) = (Fp.le 32 (dhMul (Fp.num (clampB xs)) u).val, 0) := by
  rw [dhM, if_neg (by omega), if_neg (by rw [Fp.le_length]; omega), Ed.ofB_le]
theorem nine_val : Fp.le 32 9 = Fp.le 32 (Fp.of 9).val := rfl
end Go.Proofs.Ytjllhimhiekchaa
