/- The ladder is the product of a point: by y = (u - 1) / (u + 1). No program in sight. Points as 32 bytes: told and read. No program in sight. -/
import Derived.Test.YtjllhimhiekchaaGreatBigC
import Derived.Test.YtjllhimhiekchaaGreatFieldS
namespace Go.Proofs.YtjllhimhiekchaaGreat
section
namespace Ed
open Fp
theorem c_ne : (of 121666) ≠ 0 := by decide +kernel
theorem d_is' : d * of 121666 = - of 121665 := by decide +kernel
end Ed
end
section
namespace Ed
open Fp
def top : Nat := 57896044618658097711785492504343953926634992332820282019728792003956564819968
theorem p_top : p < top := by decide +kernel
theorem top2 : 2 * top = 256 ^ 32 := by decide +kernel
theorem num_inj : ∀ {a b : List UInt8}, a.length = b.length → num a = num b → a = b
  | [], [], _, _ => rfl
  | [], _ :: _, h, _ => by simp at h
  | _ :: _, [], h, _ => by simp at h
  | x :: a, y :: b, h, e => by
    simp only [num] at e
    have hx := x.toNat_lt; have hy := y.toNat_lt
    have h1 : x.toNat = y.toNat := by omega
    have h2 : num a = num b := by omega
    rw [UInt8.toNat_inj.1 h1, num_inj (by simpa using h) h2]
theorem num_lt32 {b : List UInt8} (h : b.length = 32) : num b < 2 * top := by rw [top2, ← h]; exact num_lt b
theorem high_bit {b : List UInt8} (h : b.length = 32) : num b / top = (b.getD 31 0).toNat / 128 := by
 have h1 := num_drop b 31 (by omega)
 have e : b.drop 31 = [b.getD 31 0] := by
  rw [List.drop_eq_getElem_cons (by omega), List.drop_of_length_le (by omega), List.getD_eq_getElem?_getD, List.getElem?_eq_getElem (by omega)]; rfl
 rw [e] at h1
 have h2 : (b.getD 31 0).toNat = num b / 256 ^ 31 := by rw [← h1]; simp [num]
 rw [h2, Nat.div_div_eq_div_mul]
 rfl
def sq (y : F) : F := (y * y - 1) * inv (d * (y * y) + 1)
theorem pole_z (e : F) : e * (0 * 0) + 1 = 1 := by
 have h3 : e * (0 * 0) = 0 := by grind
 rw [h3]; decide +kernel
theorem pole_y (y : F) : d * (y * y) + 1 ≠ 0 := fun h => by
 have h1 : im * im = d * (y * y) := by rw [im_sq]; generalize d = D at *; grind
 have h2 := d_sqr h1
 subst h2
 rw [pole_z] at h
 exact one_ne h
theorem sq_mul (y : F) : sq y * (d * (y * y) + 1) = y * y - 1 := div_mul (pole_y y)
theorem on_iff {x y : F} : On (x, y) ↔ x * x = sq y := by
 have h := sq_mul y
 have hp := pole_y y
 unfold On
 simp only
 generalize d = D at *
 generalize sq y = s at *
 constructor
 ·intro h1
  refine cancel hp ?_
  clear hp
  grind
 ·intro h1
  subst h1
  clear hp
  grind
def dec (b : List UInt8) : Option (F × F) :=
 if b.length ≠ 32 ∨ p ≤ num b % top then none
 else if ¬ Sqr (sq (of (num b % top))) ∨ (root (sq (of (num b % top))) = 0 ∧ top ≤ num b) then none
 else some (if top ≤ num b then - root (sq (of (num b % top))) else root (sq (of (num b % top))), of (num b % top))
def enc (P : F × F) : List UInt8 := le 32 (P.2.val + top * (P.1.val % 2))
theorem enc_length (P : F × F) : (enc P).length = 32 := le_length ..
theorem enc_lt (P : F × F) : P.2.val + top * (P.1.val % 2) < 2 * top := by
 have h1 := P.2.isLt; have h2 := p_top
 have := Nat.mod_lt P.1.val (show 0 < 2 by omega)
 rcases (show P.1.val % 2 = 0 ∨ P.1.val % 2 = 1 by omega) with h | h <;> rw [h] <;> omega
theorem num_enc (P : F × F) : num (enc P) = P.2.val + top * (P.1.val % 2) := le_num 32 _ (by rw [← top2]; exact enc_lt P)
theorem dec_on {b : List UInt8} {P : F × F} (h : dec b = some P) : On P := by
 unfold dec at h
 split at h
 ·cases h
 ·split at h
  ·cases h
  ·rename_i h1 h2
   injection h with h
   subst h
   have hs : Sqr (sq (of (num b % top))) := Classical.byContradiction fun hc => h2 (.inl hc)
   have hr := root_sq hs
   refine on_iff.2 ?_
   split
   ·generalize root (sq (of (num b % top))) = r at *
    generalize sq (of (num b % top)) = s at *
    clear h1 h2 hs
    grind
   ·exact hr
theorem neg_odd {x : F} (h : x.val % 2 = 0) (h0 : x ≠ 0) : (-x).val % 2 = 1 := by
 rw [val_neg]
 have hl := x.isLt
 have hp : p % 2 = 1 := by decide +kernel
 have hx : x.val ≠ 0 := fun h => h0 (val_eq_zero.1 h)
 rw [show (p - x.val) % p = p - x.val from Nat.mod_eq_of_lt (by omega)]
 omega
theorem dec_enc {P : F × F} (h : On P) : dec (enc P) = some P := by
 obtain ⟨x, y⟩ := P
 have hx := on_iff.1 h
 have hy := y.isLt
 have hpt := p_top
 have hs := sqr_of hx
 have hr := root_sq hs
 have hm : (y.val + top * (x.val % 2)) % top = y.val := by rw [Nat.add_mul_mod_self_left, Nat.mod_eq_of_lt (by omega)]
 have ht : top ≤ y.val + top * (x.val % 2) ↔ x.val % 2 = 1 := by
  rcases (show x.val % 2 = 0 ∨ x.val % 2 = 1 by omega) with h | h <;> rw [h] <;> omega
 unfold dec
 rw [num_enc, enc_length]
 simp only
 rw [hm, of_val, if_neg (by rintro (hc | hc) <;> omega)]
 have hre := root_even (sq y)
 rcases roots_two (hx.trans hr.symm) with e | e
 ·have hev : x.val % 2 = 0 := by rw [e]; exact hre
  rw [if_neg (by rintro (hc | ⟨_, hc⟩); (· exact hc hs); (· rw [ht] at hc; omega)), if_neg (by rw [ht]; omega), ← e]
 ·by_cases h0 : root (sq y) = 0
  ·have hx0 : x = 0 := by rw [e, h0]; decide +kernel
   have hev : x.val % 2 = 0 := by rw [hx0]; rfl
   rw [if_neg (by rintro (hc | ⟨_, hc⟩); (· exact hc hs); (· rw [ht] at hc; omega)), if_neg (by rw [ht]; omega), h0, hx0]
  ·have hod : x.val % 2 = 1 := by rw [e]; exact neg_odd hre h0
   rw [if_neg (by rintro (hc | ⟨hc, _⟩); (· exact hc hs); (· exact h0 hc)), if_pos (ht.2 hod), ← e]
end Ed
end
end Go.Proofs.YtjllhimhiekchaaGreat
