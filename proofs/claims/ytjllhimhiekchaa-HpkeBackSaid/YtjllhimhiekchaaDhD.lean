/- dh's Mul, Base, Shared, and the reference's Clamp: what each hands back. -/
import Derived.Test.YtjllhimhiekchaaEdA
import Derived.Test.YtjllhimhiekchaaFieldS
import Derived.Test.YtjllhimhiekchaaDhC
/- The ladder is the product of a point: by y = (u - 1) / (u + 1). No program in sight. Points as 32 bytes: told and read. No program in sight. -/
namespace Go.Proofs.Ytjllhimhiekchaa
section
namespace Ed
open Fp
def uu (P : F × F) : F := (1 + P.2) * inv (1 - P.2)
/-- A quotient of u for a point. -/
def K (X Z : F) (P : F × F) : Prop := X - Z = P.2 * (X + Z) ∧ X + Z ≠ 0
theorem mul_z2 (e : F) : 1 + e * 0 * 0 = 1 := by
  have h : e * 0 * 0 = 0 := by grind
  rw [h]; decide +kernel
theorem y_pole {y : F} : 1 + d * y * y ≠ 0 := fun h => by
  have h1 : im * im = d * (y * y) := by rw [im_sq]; generalize d = D at *; grind
  have h2 := d_sqr h1
  subst h2
  rw [mul_z2] at h
  exact one_ne h
theorem x_of {P : F × F} (h : On P) : P.1 * P.1 * (1 + d * P.2 * P.2) = P.2 * P.2 - 1 := by
  obtain ⟨x, y⟩ := P
  unfold On at h
  simp only at *
  generalize d = D at *
  grind
theorem c_ne : (of 121666) ≠ 0 := by decide +kernel
theorem c_is : of 121666 = 1 + of 121665 := by decide +kernel
theorem d_is' : d * of 121666 = - of 121665 := by decide +kernel
theorem k_dbl {px pz : F} {P : F × F} (hP : On P) (h : K px pz P) :
    K ((px + pz) * (px + pz) * ((px - pz) * (px - pz))) (((px + pz) * (px + pz) - (px - pz) * (px - pz)) * ((px + pz) * (px + pz) + ((px + pz) * (px + pz) - (px - pz) * (px - pz)) * of 121665)) (add P P) := by
  obtain ⟨h1, h2⟩ := h
  have hx := x_of hP
  have hy := add_y hP hP
  have hm := pole_M hP hP
  have hp := y_pole (y := P.2)
  have hc := c_ne
  have hci := c_is
  have hd := d_is'
  rw [h1]
  generalize add P P = R at *
  obtain ⟨x, y⟩ := P
  obtain ⟨rx, ry⟩ := R
  unfold K
  simp only at *
  generalize px + pz = a at *
  generalize of 121666 = c at *
  generalize of 121665 = A at *
  generalize d = D at *
  clear h1 hP
  obtain rfl : A = c - 1 := by grind
  have key : a * a * (y * a * (y * a)) + (a * a - y * a * (y * a)) * (a * a + (a * a - y * a * (y * a)) * (c - 1)) = a * a * (a * a) * (c * ((1 - D * x * x * y * y) * (1 + D * y * y))) := by
    have e1 : (1 - D * x * x * y * y) * (1 + D * y * y) = 1 + D * y * y - D * y * y * (x * x * (1 + D * y * y)) := by clear hy hd hci hx; grind
    rw [e1, hx]
    clear hy hx e1 hm hp
    grind
  have key2 : a * a * (y * a * (y * a)) - (a * a - y * a * (y * a)) * (a * a + (a * a - y * a * (y * a)) * (c - 1)) = a * a * (a * a) * (c * ((y * y + x * x) * (1 + D * y * y))) := by
    have e1 : (y * y + x * x) * (1 + D * y * y) = y * y * (1 + D * y * y) + x * x * (1 + D * y * y) := by clear hy hd hci hx; grind
    rw [e1, hx]
    clear hy hx e1 hm hp key
    grind
  rw [key, key2]
  refine ⟨?_, mul_ne (mul_ne (mul_ne h2 h2) (mul_ne h2 h2)) (mul_ne hc (mul_ne hm hp))⟩
  rw [← hy]
  clear hy hx hd hci key key2
  grind
theorem k_add0 {D m n xp xr : F} (hP : m * m - xp * xp = 1 + D * xp * xp * m * m) (hR : n * n - xr * xr = 1 + D * xr * xr * n * n) :
    ((m + n) * (m + n) * (1 + D * xp * xr * m * n - m * n + xp * xr) - (1 + D * xp * xr * m * n + m * n - xp * xr) * ((n - m) * (n - m))) * (1 - D * xp * xr * m * n)
     = (m * n + xp * xr) * ((m + n) * (m + n) * (1 + D * xp * xr * m * n - m * n + xp * xr) + (1 + D * xp * xr * m * n + m * n - xp * xr) * ((n - m) * (n - m))) := by
  grind
theorem y_zero {D x : F} (h : 0 * 0 - x * x = 1 + D * x * x * 0 * 0) : x * x = -1 := by
  rw [mul_z2] at h
  have h2 : (0 : F) * 0 - x * x = - (x * x) := by clear h; grind
  rw [h2] at h
  rw [← h]
  clear h h2
  grind
theorem sq_zero {a : F} (h : a * a = 0) : a = 0 := (zero_or h).elim id id
/-- The step's other half: two points whose difference is known. -/
theorem k_add {px pz qx qz u : F} {P R Q : F × F} (hP : On P) (hR : On R) (h : K px pz P) (k : K qx qz R) (hQ : Q.2 = (add R (neg P)).2) (hu : u * (1 - Q.2) = 1 + Q.2) (hu0 : u ≠ 0) (hq : 1 - Q.2 ≠ 0) :
    K (((qx - qz) * (px + pz) + (qx + qz) * (px - pz)) * ((qx - qz) * (px + pz) + (qx + qz) * (px - pz))) (u * (((qx - qz) * (px + pz) - (qx + qz) * (px - pz)) * ((qx - qz) * (px + pz) - (qx + qz) * (px - pz)))) (add P R) := by
  obtain ⟨h1, h2⟩ := h
  obtain ⟨k1, k2⟩ := k
  have hy := add_y hP hR
  have hm := pole_M hP hR
  have hy' := add_y hR (on_neg hP)
  have hm' := pole_M hR (on_neg hP)
  rw [h1, k1]
  rw [hQ] at hu hq
  have hPR : add P R = add P R := rfl
  have k0 := @k_add0 d P.2 R.2 P.1 R.1 (by have := hP; unfold On at this; exact this) (by have := hR; unfold On at this; exact this)
  generalize add P R = S at *
  generalize hT : add R (neg P) = T at *
  have en : neg P = (-P.1, P.2) := rfl
  rw [en] at hy' hm'
  have oP := hP
  have oR := hR
  unfold On at oP oR
  obtain ⟨xp, m⟩ := P
  obtain ⟨xr, n⟩ := R
  obtain ⟨sx, sy⟩ := S
  obtain ⟨tx, ty⟩ := T
  unfold K
  simp only at *
  generalize px + pz = a at *
  generalize qx + qz = c at *
  generalize d = D at *
  clear h1 k1 en hT hP hR
  have e1 : 1 - D * xr * -xp * n * m = 1 + D * xp * xr * m * n := by clear hy hy' hm hm' hu hq k0 oP oR; grind
  have e2 : n * m + xr * -xp = m * n - xp * xr := by clear hy hy' hm hm' hu hq k0 oP oR e1; grind
  rw [e1] at hm' hy'
  rw [e2] at hy'
  clear e1 e2
  have hac := mul_ne (mul_ne h2 k2) (mul_ne h2 k2)
  have f1 : (n * c * a + c * (m * a)) * (n * c * a + c * (m * a)) = a * c * (a * c) * ((m + n) * (m + n)) := by clear hy hy' hm hm' hu hq k0 oP oR; grind
  have f2 : u * ((n * c * a - c * (m * a)) * (n * c * a - c * (m * a))) = a * c * (a * c) * (u * ((n - m) * (n - m))) := by clear hy hy' hm hm' hu hq k0 oP oR f1; grind
  rw [f1, f2]
  clear f1 f2
  -- u by its quotient
  have g1 : u * (1 + D * xp * xr * m * n - m * n + xp * xr) = 1 + D * xp * xr * m * n + m * n - xp * xr := by
    have : (1 + D * xp * xr * m * n) * (u * (1 - ty)) = (1 + D * xp * xr * m * n) * (1 + ty) := by rw [hu]
    clear hy hm hu hq k0 oP oR
    generalize D * xp * xr * m * n = E at *
    grind
  have g2 : 1 + D * xp * xr * m * n - m * n + xp * xr ≠ 0 := fun hc => by
    have : (1 + D * xp * xr * m * n) * (1 - ty) = 0 := by
      clear hy hm hu hq k0 oP oR g1
      generalize D * xp * xr * m * n = E at *
      grind
    exact mul_ne hm' hq this
  generalize 1 + D * xp * xr * m * n - m * n + xp * xr = W at *
  rw [← g1] at k0
  have main : (m + n) * (m + n) - u * ((n - m) * (n - m)) = sy * ((m + n) * (m + n) + u * ((n - m) * (n - m))) := by
    refine cancel (mul_ne hm g2) ?_
    rw [← hy] at k0
    clear hy hy' hm hm' hu hq oP oR g1 g2 hac
    generalize 1 - D * xp * xr * m * n = A at *
    grind
  have nz : (m + n) * (m + n) + u * ((n - m) * (n - m)) ≠ 0 := fun hc => by
    rw [hc] at main
    have z1 : 2 * ((m + n) * (m + n)) = 0 := by clear hy hy' hm hm' hu hq oP oR g1 g2 hac k0; grind
    have z2 : 2 * (u * ((n - m) * (n - m))) = 0 := by clear hy hy' hm hm' hu hq oP oR g1 g2 hac k0 z1; grind
    have z3 := sq_zero ((zero_or z1).resolve_left two_ne)
    have z4 := sq_zero ((zero_or ((zero_or z2).resolve_left two_ne)).resolve_left hu0)
    have z5 : 2 * m = 0 := by clear hy hy' hm hm' hu hq oP oR g1 g2 hac k0 z1 z2 main hc; grind
    have z6 : 2 * n = 0 := by clear hy hy' hm hm' hu hq oP oR g1 g2 hac k0 z1 z2 main hc z5; grind
    obtain rfl := (zero_or z5).resolve_left two_ne
    obtain rfl := (zero_or z6).resolve_left two_ne
    -- both have y = 0: their difference has y = 1 or -1
    have q1 := y_zero oP
    have q2 := y_zero oR
    have q3 : ty = - (xp * xr) := by clear hy hm hm' hu hq oP oR g1 g2 hac k0 z1 z2 main hc z3 z4 z5 z6 q1 q2; grind
    have q4 : ty * ty = 1 := by rw [q3]; clear hy hy' hm hm' hu hq oP oR g1 g2 hac k0 z1 z2 main hc z3 z4 z5 z6 q3; grind
    have q5 : (1 - ty) * (1 + ty) = 0 := by clear hy hy' hm hm' hu hq oP oR g1 g2 hac k0 z1 z2 main hc z3 z4 z5 z6 q3 q1 q2; grind
    have q6 := (zero_or q5).resolve_left hq
    rw [q6] at hu
    exact mul_ne hu0 hq hu
  refine ⟨?_, ?_⟩
  · clear hy hy' hm hm' hu hq oP oR g1 g2 hac k0 nz
    grind
  · have := mul_ne hac nz
    clear hy hy' hm hm' hu hq oP oR g1 g2 hac k0 nz main
    intro hc
    apply this
    rw [← hc]
    clear hc this
    grind
theorem k_uu {X Z : F} {P : F × F} (h : K X Z P) : X * inv Z = uu P := by
  obtain ⟨h1, h2⟩ := h
  unfold uu
  generalize P.2 = y at *
  by_cases hy : 1 - y = 0
  · have hz : 2 * Z = 0 := by grind
    have hz' := (zero_or hz).resolve_left two_ne
    rw [hz', hy, inv_zero]
    clear h1 h2 hz hz' hy
    grind
  · have hz : Z ≠ 0 := fun hc => by
      subst hc
      have : (1 - y) * X = 0 := by clear hy h2; grind
      have hX := (zero_or this).resolve_left hy
      apply h2
      rw [hX]; decide +kernel
    have m1 := mul_inv hy
    have m2 := mul_inv hz
    refine cancel (mul_ne hy hz) ?_
    have e : X * (1 - y) = Z * (1 + y) := by clear h2 hy hz m1 m2; grind
    generalize inv Z = I at *
    generalize inv (1 - y) = J at *
    have e1 : (1 - y) * Z * (X * I) = X * (1 - y) * (Z * I) := by clear h1 h2 hy hz m1 m2 e; grind
    have e2 : (1 - y) * Z * ((1 + y) * J) = Z * (1 + y) * ((1 - y) * J) := by clear h1 h2 hy hz m1 m2 e e1; grind
    rw [e1, e2, m1, m2, e]
theorem add_y_neg {P Q : F × F} : (add (neg P) (neg Q)).2 = (add P Q).2 := by
  unfold add neg
  simp only
  have e1 : P.2 * Q.2 + -P.1 * -Q.1 = P.2 * Q.2 + P.1 * Q.1 := by grind
  have e2 : d * -P.1 * -Q.1 * P.2 * Q.2 = d * P.1 * Q.1 * P.2 * Q.2 := by grind
  rw [e1, e2]
/-- Of a point and the next one. -/
def Pair (s : (F × F) × (F × F)) (m : Nat) (Q : F × F) : Prop := K s.1.1 s.1.2 (mul m Q) ∧ K s.2.1 s.2.2 (mul (m + 1) Q)
end Ed
end
section
namespace Ed
open Fp
def top : Nat := 57896044618658097711785492504343953926634992332820282019728792003956564819968
theorem top_pow : top = 2 ^ 255 := by decide +kernel
theorem high_bit {b : List UInt8} (h : b.length = 32) : num b / top = (b.getD 31 0).toNat / 128 := by
  have h1 := num_drop b 31 (by omega)
  have e : b.drop 31 = [b.getD 31 0] := by
    rw [List.drop_eq_getElem_cons (by omega), List.drop_of_length_le (by omega), List.getD_eq_getElem?_getD, List.getElem?_eq_getElem (by omega)]; rfl
  rw [e] at h1
  have h2 : (b.getD 31 0).toNat = num b / 256 ^ 31 := by rw [← h1]; simp [num]
  rw [h2, Nat.div_div_eq_div_mul]
  rfl
def enc (P : F × F) : List UInt8 := le 32 (P.2.val + top * (P.1.val % 2))
theorem ofB_le (x : F) : of (ofB (le 32 x.val)) = x := by
  have hl := x.isLt
  have hv : num (le 32 x.val) = x.val := le_num 32 x.val (by unfold p at hl; omega)
  unfold ofB
  rw [List.take_of_length_le (by rw [le_length]; omega), hv, show x.val % 57896044618658097711785492504343953926634992332820282019728792003956564819968 = x.val from Nat.mod_eq_of_lt (by unfold p at hl; omega), Nat.mod_eq_of_lt hl, of_val]
end Ed
end
end Go.Proofs.Ytjllhimhiekchaa

namespace Go.Proofs.Ytjllhimhiekchaa
open Go.RowKit
attribute [local irreducible] Y Ef WL WC WK WQ WM OpM WN WF OpN
/-- A product, or why there is none. -/
def dhM (xs ys : List UInt8) : List UInt8 × Nat := if xs.length ≠ 32 then ([], 1) else if ys.length ≠ 32 then ([], 3) else (Fp.le 32 (dhMul (Fp.num (clampB xs)) (Fp.of (Fp.ofB ys))).val, 0)
def dhS (xs ys : List UInt8) : List UInt8 × Nat := if (dhM xs ys).2 ≠ 0 then ([], (dhM xs ys).2) else if (dhM xs ys).1.any (fun x => decide (x ≠ 0)) then ((dhM xs ys).1, 0) else ([], 9)
/-- Bytes and an error's number; the bytes are new. -/
def RetB (w : World) (r : List UInt8 × Nat) (e : Ending) (w' : World) : Prop := ∃ A k c, e = .returned (.tuple #[.slice A k c, .int .u8 (r.2 : Int)]) ∧ Bs w' A k r.1 ∧ (∀ b o, A = some ⟨b, o, none⟩ → w.heap.size ≤ b) ∧ Ext w w'
theorem dhmul_any (A B : Option Addr) (n c m d : Nat) (xs ys : List UInt8) (w : World) (HA : Bs w A n xs) (HB : Bs w B m ys) :
    Calls Try.prog 31 #[.slice A n c, .slice B m d] w (RetB w (dhM xs ys)) := by
  have hx := HA.1; have hy := HB.1
  refine vc_enter2 19 Try.func31 rfl rfl rfl rfl ?_
  intro Q hret
  refine wc_seq ?_; intro K1 hK1
  refine wc_region ?_
  refine wl_y (y_assign rfl) rfl ?_
  refine wl_y (y_assign rfl) rfl ?_
  refine wl_nil ?_
  refine wq_then_norm (hK1 ?_)
  refine wc_seq ?_; intro K2 hK2
  refine wc_block ?_
  refine wc_seq ?_; intro K3 hK3
  refine wc_region ?_
  refine wl_y (y_move rfl) rfl ?_
  refine wl_y (y_len_slice rfl Try.underlying22) rfl ?_
  refine wl_y (y_neq rfl rfl) rfl ?_
  refine wl_y (y_assign rfl) rfl ?_
  refine wl_nil ?_
  refine wq_then_norm (hK3 ?_)
  refine wc_dec rfl (fun hc1 => ?_) (fun hc1 => ?_)
  · skip
    refine wc_seq ?_; intro K4 hK4
    refine wc_region ?_
    refine wl_y (y_assign rfl) rfl ?_
    refine wl_y (y_assign rfl) rfl ?_
    refine wl_nil ?_
    refine wq_then_norm (hK4 ?_)
    refine wc_ret ?_
    refine wq_blk_ret ?_
    refine wq_then_ret ?_
    refine hret rfl rfl ?_
    exact ⟨none, 0, 0, by rw [dhM, if_pos (by omega)]; rfl, by rw [dhM, if_pos (by omega)]; exact Bs.nil _ _, fun _ _ h => (by cases h), Ext.refl _⟩
  · skip
    refine wc_seq ?_; intro K5 hK5
    refine wc_region ?_
    refine wl_y (y_move rfl) rfl ?_
    refine wl_y (y_len_slice rfl Try.underlying22) rfl ?_
    refine wl_y (y_neq rfl rfl) rfl ?_
    refine wl_y (y_assign rfl) rfl ?_
    refine wl_nil ?_
    refine wq_then_norm (hK5 ?_)
    refine wc_dec rfl (fun hc2 => ?_) (fun hc2 => ?_)
    · skip
      refine wc_seq ?_; intro K6 hK6
      refine wc_region ?_
      refine wl_y (y_assign rfl) rfl ?_
      refine wl_y (y_assign rfl) rfl ?_
      refine wl_nil ?_
      refine wq_then_norm (hK6 ?_)
      refine wc_ret ?_
      refine wq_blk_ret ?_
      refine wq_then_ret ?_
      refine hret rfl rfl ?_
      exact ⟨none, 0, 0, by rw [dhM, if_neg (by omega), if_pos (by omega)]; rfl, by rw [dhM, if_neg (by omega), if_pos (by omega)]; exact Bs.nil _ _, fun _ _ h => (by cases h), Ext.refl _⟩
    · skip
      refine wc_skip ?_
      refine wq_blk_norm ?_
      refine wq_then_norm (hK2 ?_)
      refine wc_seq ?_; intro K7 hK7
      have hM : dhM xs ys = (Fp.le 32 (dhMul (Fp.num (clampB xs)) (Fp.of (Fp.ofB ys))).val, 0) := by rw [dhM, if_neg (by omega), if_neg (by omega)]
      refine wc_region ?_
      refine wl_y (y_move rfl) rfl ?_
      refine wl_call Try.func53 rfl rfl rfl (clamp_any A n c xs _ HA) rfl ?_
      rintro e w1 ⟨g1, rfl, H1, ex⟩
      refine ⟨_, rfl, ?_⟩
      replace HB := HB.ext ex
      have E1 := ex
      refine wl_y (y_move rfl) rfl ?_
      refine wl_call Try.func54 rfl rfl rfl (Fof_any B m d ys _ HB) rfl ?_
      rintro e w2 ⟨c2, rfl, F2, ex⟩
      refine ⟨_, rfl, ?_⟩
      replace HB := HB.ext ex
      replace H1 := H1.ext ex
      obtain ⟨f2, rfl, F2⟩ := F2.fe; have E2 := E1.ext ex
      refine wl_call Try.func52 rfl rfl rfl (product_any _ 32 _ f2 _ _ H1 F2) rfl ?_
      rintro e w3 ⟨g3, rfl, hg3, B3, ex⟩
      refine ⟨_, rfl, ?_⟩
      replace HB := HB.ext ex
      replace H1 := H1.ext ex
      have E3 := E2.ext ex; have hs := E2.size
      refine wl_y (y_assign rfl) rfl ?_
      refine wl_y (y_assign rfl) rfl ?_
      refine wl_nil ?_
      refine wq_then_norm (hK7 ?_)
      refine wc_ret ?_
      refine hret rfl rfl ?_
      exact ⟨some ⟨g3, 0, none⟩, 32, 32, by rw [hM]; rfl, by rw [hM]; exact bs_blk' B3 (Fp.le_length 32 _), fun b o h => by injection h with h; injection h with h; omega, E3⟩
theorem dhbase_any (A : Option Addr) (n c : Nat) (xs : List UInt8) (w : World) (HA : Bs w A n xs) :
    Calls Try.prog 12 #[.slice A n c] w (RetB w (dhM xs (Fp.le 32 9))) := by
  refine vc_enter2 10 Try.func12 rfl rfl rfl rfl ?_
  intro Q hret
  refine wc_seq ?_; intro K1 hK1
  refine wc_region ?_
  refine wl_y (y_assign rfl) rfl ?_
  refine wl_y (y_assign rfl) rfl ?_
  refine wl_nil ?_
  refine wq_then_norm (hK1 ?_)
  refine wc_seq ?_; intro K2 hK2
  refine wc_region ?_
  refine wl_y (y_move rfl) rfl ?_
  refine wl_call Try.func32 rfl rfl rfl (Fnum_any 9 _ (by omega)) rfl ?_
  rintro e w1 ⟨c1, rfl, F1, ex⟩
  refine ⟨_, rfl, ?_⟩
  replace HA := HA.ext ex
  have E1 := ex
  refine wl_call Try.func33 rfl rfl rfl (fbytes_any F1 _) rfl ?_
  rintro e w2 ⟨g2, rfl, hg2, B2, ex⟩
  refine ⟨_, rfl, ?_⟩
  replace HA := HA.ext ex
  have E2 := E1.ext ex; have H2 := bs_blk' B2 (Fp.le_length 32 _)
  refine wl_call Try.func31 rfl rfl rfl (dhmul_any A _ n c 32 32 xs (Fp.le 32 9) _ HA H2) rfl ?_
  rintro e w3 ⟨A3, k3, c3, rfl, H3, hf, ex⟩
  refine ⟨_, rfl, ?_⟩
  replace HA := HA.ext ex
  have E3 := E2.ext ex; have hs := E2.size
  refine wl_y (y_extract rfl rfl) rfl ?_
  refine wl_y (y_extract rfl rfl) rfl ?_
  refine wl_y (y_assign rfl) rfl ?_
  refine wl_y (y_assign rfl) rfl ?_
  refine wl_nil ?_
  refine wq_then_norm (hK2 ?_)
  refine wc_ret ?_
  refine hret rfl rfl ?_
  exact ⟨A3, k3, c3, rfl, H3, fun b o h => by have := hf b o h; omega, E3⟩
theorem dhshared_any (A B : Option Addr) (n c m d : Nat) (xs ys : List UInt8) (w : World) (HA : Bs w A n xs) (HB : Bs w B m ys) :
    Calls Try.prog 16 #[.slice A n c, .slice B m d] w (RetB w (dhS xs ys)) := by
  refine vc_enter2 23 Try.func16 rfl rfl rfl rfl ?_
  intro Q hret
  refine wc_seq ?_; intro K1 hK1
  refine wc_region ?_
  refine wl_y (y_assign rfl) rfl ?_
  refine wl_y (y_assign rfl) rfl ?_
  refine wl_nil ?_
  refine wq_then_norm (hK1 ?_)
  refine wc_seq ?_; intro K2 hK2
  refine wc_region ?_
  refine wl_y (y_move rfl) rfl ?_
  refine wl_y (y_move rfl) rfl ?_
  refine wl_call Try.func31 rfl rfl rfl (dhmul_any A B n c m d xs ys _ HA HB) rfl ?_
  rintro e w1 ⟨A1, k1, c1, rfl, H1, hf, ex⟩
  refine ⟨_, rfl, ?_⟩
  have E1 := ex; have hl1 := H1.1; have hk : k1 ≤ 32 := by rw [← hl1]; unfold dhM; split <;> (try split) <;> simp [Fp.le_length]
  refine wl_y (y_move rfl) rfl ?_
  refine wl_y (y_extract rfl rfl) rfl ?_
  refine wl_y (y_extract rfl rfl) rfl ?_
  refine wl_y (y_assign rfl) rfl ?_
  refine wl_y (y_assign rfl) rfl ?_
  refine wl_nil ?_
  refine wq_then_norm (hK2 ?_)
  refine wc_seq ?_; intro K3 hK3
  refine wc_block ?_
  refine wc_seq ?_; intro K4 hK4
  refine wc_region ?_
  refine wl_y (y_move rfl) rfl ?_
  refine wl_y (y_neq rfl rfl) rfl ?_
  refine wl_y (y_assign rfl) rfl ?_
  refine wl_nil ?_
  refine wq_then_norm (hK4 ?_)
  refine wc_dec rfl (fun hc1 => ?_) (fun hc1 => ?_)
  · skip
    refine wc_seq ?_; intro K5 hK5
    refine wc_region ?_
    refine wl_y (y_move rfl) rfl ?_
    refine wl_y (y_assign rfl) rfl ?_
    refine wl_y (y_assign rfl) rfl ?_
    refine wl_nil ?_
    refine wq_then_norm (hK5 ?_)
    refine wc_ret ?_
    refine wq_blk_ret ?_
    refine wq_then_ret ?_
    refine hret rfl rfl ?_
    exact ⟨none, 0, 0, by rw [dhS, if_pos (by omega)], by rw [dhS, if_pos (by omega)]; exact Bs.nil _ _, fun _ _ h => (by cases h), E1⟩
  · skip
    refine wc_seq ?_; intro K6 hK6
    refine wc_region ?_
    refine wl_y (y_move rfl) rfl ?_
    refine wl_call Try.func36 rfl rfl rfl (containsFunc_any A1 k1 c1 _ 37 [] (fun x => decide (x ≠ 0)) _ _ _ H1 (by omega) Try.func37 rfl rfl (fun x w1 _ => shared1_any x w1)) rfl ?_
    rintro e w2 ⟨rfl, ex⟩
    refine ⟨_, rfl, ?_⟩
    have E2 := E1.ext ex; have H2 := H1.ext ex
    refine wl_y (y_not rfl) rfl ?_
    refine wl_y (y_assign rfl) rfl ?_
    refine wl_nil ?_
    refine wq_then_norm (hK6 ?_)
    refine wc_cond rfl (fun hc2 => ?_) (fun hc2 => ?_)
    · skip
      have hno : ¬ (dhM xs ys).1.any (fun x => decide (x ≠ 0)) = true := by simpa using hc2
      refine wc_seq ?_; intro K7 hK7
      refine wc_region ?_
      refine wl_y (y_assign rfl) rfl ?_
      refine wl_y (y_assign rfl) rfl ?_
      refine wl_nil ?_
      refine wq_then_norm (hK7 ?_)
      refine wc_ret ?_
      refine wq_blk_ret ?_
      refine wq_then_ret ?_
      refine hret rfl rfl ?_
      exact ⟨none, 0, 0, by rw [dhS, if_neg (by omega), if_neg hno]; rfl, by rw [dhS, if_neg (by omega), if_neg hno]; exact Bs.nil _ _, fun _ _ h => (by cases h), E2⟩
    · skip
      have hno : (dhM xs ys).1.any (fun x => decide (x ≠ 0)) = true := by simpa using hc2
      refine wc_skip ?_
      refine wq_blk_norm ?_
      refine wq_then_norm (hK3 ?_)
      refine wc_seq ?_; intro K8 hK8
      refine wc_region ?_
      refine wl_y (y_move rfl) rfl ?_
      refine wl_y (y_assign rfl) rfl ?_
      refine wl_y (y_assign rfl) rfl ?_
      refine wl_nil ?_
      refine wq_then_norm (hK8 ?_)
      refine wc_ret ?_
      refine hret rfl rfl ?_
      exact ⟨A1, k1, c1, by rw [dhS, if_neg (by omega), if_pos hno]; rfl, by rw [dhS, if_neg (by omega), if_pos hno]; exact H2, hf, E2⟩
end Go.Proofs.Ytjllhimhiekchaa
