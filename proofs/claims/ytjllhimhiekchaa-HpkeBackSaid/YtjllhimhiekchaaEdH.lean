/- Two keys' secret is never nothing. No program in sight. -/
import Derived.Test.YtjllhimhiekchaaFieldK
import Derived.Test.YtjllhimhiekchaaDhI
/- The base's order is prime. No program in sight. -/
namespace Go.Proofs.Ytjllhimhiekchaa
namespace Nt
theorem prm_1224481 : Prm 1224481 := prm_small (k := 1110) (by omega) (by omega) (by decide +kernel)
theorem prm_531581 : Prm 531581 := prm_small (k := 730) (by omega) (by omega) (by decide +kernel)
theorem prm_l1 : Prm 1257559732178653 :=
  prm_of (F := 1224481 * 531581) (by omega) (by omega) fun _ hr hd => cop_dvd (by decide +kernel) (pock2 (m := 1027014492) prm_1224481 60 2 (by decide +kernel) hr hd) (pock2 (m := 2365697292) prm_531581 60 2 (by decide +kernel) hr hd)
theorem prm_l2 : Prm 4434155615661930479 :=
  prm_of (F := 1257559732178653) (by omega) (by omega) fun _ hr hd => pock2 (m := 3526) prm_l1 64 2 (by decide +kernel) hr hd
theorem prm_l3 : Prm 172054593956031949258510691 :=
  prm_of (F := 4434155615661930479) (by omega) (by omega) fun _ hr hd => pock2 (m := 38802110) prm_l2 90 2 (by decide +kernel) hr hd
theorem prm_l4 : Prm 19757330305831588566944191468367130476339 :=
  prm_of (F := 172054593956031949258510691) (by omega) (by omega) fun _ hr hd => pock2 (m := 114831751082918) prm_l3 140 2 (by decide +kernel) hr hd
theorem prm_l5 : Prm 276602624281642239937218680557139826668747 :=
  prm_of (F := 19757330305831588566944191468367130476339) (by omega) (by omega) fun _ hr hd => pock2 (m := 14) prm_l4 140 2 (by decide +kernel) hr hd
/-- The order of the base. -/
theorem prm_L : Prm 7237005577332262213973186563042994240857116359379907606001950938285454250989 :=
  prm_of (F := 276602624281642239937218680557139826668747) (by omega) (by omega) fun _ hr hd => pock2 (m := 26163907866482859529727157400808004) prm_l5 256 2 (by decide +kernel) hr hd
end Nt
end Go.Proofs.Ytjllhimhiekchaa

/- Two keys' secret is never nothing: the base's order is prime. No program in sight. -/
namespace Go.Proofs.Ytjllhimhiekchaa
namespace Ed
open Fp Nt
theorem mul_gcd (x y : Nat) : mul x B = O → mul y B = O → mul (Nat.gcd x y) B = O := by
  induction x, y using Nat.gcd.induction with
  | H0 y => intro _ h; rwa [Nat.gcd_zero_left]
  | H1 x y hx ih =>
    intro h1 h2
    rw [Nat.gcd_rec]
    refine ih ?_ h1
    have e : y = x * (y / x) + y % x := (Nat.div_add_mod y x).symm
    rw [e, mul_add on_B, mul_mul on_B, h1, mul_O, O_add] at h2
    exact h2
theorem order_dvd {n : Nat} (h : mul n B = O) : L ∣ n := by
  have hg := mul_gcd n L h base_order
  rcases prm_L.2 (Nat.gcd n L) (Nat.gcd_dvd_right n L) with h1 | h1
  · rw [h1, mul_one] at hg
    exact absurd hg (by decide +kernel)
  · have := Nat.gcd_dvd_left n L
    rw [h1] at this; exact this
theorem uu_zero {Q : F × F} (hQ : On Q) (hu0 : uu Q = 0) : mul 2 Q = O := by
  have h2 : Q.2 * Q.2 = 1 := by
    unfold uu at hu0
    rcases zero_or hu0 with h | h
    · have : Q.2 = -1 := by generalize Q.2 = y at *; clear hu0; grind
      rw [this]; decide +kernel
    · have h3 : 1 - Q.2 = 0 := Classical.byContradiction fun hc => inv_ne hc h
      have : Q.2 = 1 := by generalize Q.2 = y at *; clear hu0 h; grind
      rw [this]; decide +kernel
  have hx := x_zero hQ h2
  show add (add O Q) Q = O
  rw [O_add]
  have : Q = neg Q := by
    obtain ⟨x, y⟩ := Q
    unfold neg
    simp only at *
    subst hx
    refine Prod.ext ?_ rfl
    show (0 : F) = -0
    decide +kernel
  rw [show add Q Q = add Q (neg Q) from by rw [← this], add_neg hQ]
theorem num_ge : ∀ (l : List UInt8) (k : Nat), 256 ^ k * (l.getD k 0).toNat ≤ num l
  | [], k => by simp
  | x :: l, 0 => by
    show 256 ^ 0 * x.toNat ≤ x.toNat + 256 * num l
    omega
  | x :: l, k + 1 => by
    have h := num_ge l k
    show 256 ^ (k + 1) * (l.getD k 0).toNat ≤ x.toNat + 256 * num l
    rw [Nat.pow_succ, Nat.mul_comm (256 ^ k) 256, Nat.mul_assoc]
    omega
theorem clamp_ge (xs : List UInt8) : 28948022309329048855892746252171976963317496166410141009864396001978282409984 ≤ num (clampB xs) := by
  have h := num_ge (clampB xs) 31
  rw [clamp_last] at h
  have h64 : 64 ≤ ((pad xs).getD 31 0).toNat % 64 + 64 := by omega
  have := Nat.mul_le_mul_left (256 ^ 31) h64
  have e : 256 ^ 31 * 64 = 28948022309329048855892746252171976963317496166410141009864396001978282409984 := by decide +kernel
  omega
theorem clamp_eight (xs : List UInt8) : num (clampB xs) % 8 = 0 := by
  have h1 := num_first (clampB xs)
  rw [clamp_first] at h1
  omega
end Ed
end Go.Proofs.Ytjllhimhiekchaa

namespace Go.Proofs.Ytjllhimhiekchaa
namespace Ed
open Fp Nt
theorem no_dvd {K : Nat} (h1 : K < 57896044618658097711785492504343953926634992332820282019728792003956564819968) (h2 : 28948022309329048855892746252171976963317496166410141009864396001978282409984 ≤ K) (h3 : K % 8 = 0) :
    ¬ 7237005577332262213973186563042994240857116359379907606001950938285454250989 ∣ K := by
  rintro ⟨k, rfl⟩
  have hk : k < 8 := Nat.lt_of_mul_lt_mul_left (Nat.lt_trans h1 (show (57896044618658097711785492504343953926634992332820282019728792003956564819968 : Nat) < 7237005577332262213973186563042994240857116359379907606001950938285454250989 * 8 from Nat.le_of_ble_eq_true rfl))
  have hall : ∀ k : Fin 8, (7237005577332262213973186563042994240857116359379907606001950938285454250989 * k.val) % 8 = 0 → k.val = 0 := by decide +kernel
  have h0 := hall ⟨k, hk⟩ h3
  have h0' : k = 0 := h0
  subst h0'
  exact absurd h2 (Nat.not_le_of_lt (Nat.le_of_ble_eq_true rfl))
theorem no_dvd_two : ¬ 7237005577332262213973186563042994240857116359379907606001950938285454250989 ∣ 2 := by decide +kernel
theorem no_prod {M N : Nat} (hM : M < 57896044618658097711785492504343953926634992332820282019728792003956564819968) (hN : N < 57896044618658097711785492504343953926634992332820282019728792003956564819968)
    (gM : 28948022309329048855892746252171976963317496166410141009864396001978282409984 ≤ M) (gN : 28948022309329048855892746252171976963317496166410141009864396001978282409984 ≤ N) (eM : M % 8 = 0) (eN : N % 8 = 0) :
    ¬ 7237005577332262213973186563042994240857116359379907606001950938285454250989 ∣ N * M * 2 := fun hd => by
  rcases prm_L.dvd_mul hd with h3 | h3
  · rcases prm_L.dvd_mul h3 with h4 | h4
    · exact no_dvd hN gN eN h4
    · exact no_dvd hM gM eM h4
  · exact no_dvd_two h3
theorem two_ne_O {K : Nat} (h : ¬ 7237005577332262213973186563042994240857116359379907606001950938285454250989 ∣ K * 2) : uu (mul K B) ≠ 0 := fun h0 => by
  have h2 := uu_zero (on_mul on_B K) h0
  rw [← mul_mul on_B] at h2
  exact h (order_dvd h2)
theorem secret_ne (xs ys : List UInt8) : dhMul (num (clampB xs)) (dhMul (num (clampB ys)) (of 9)) ≠ 0 := by
  have hp : (2 : Nat) ^ 255 = 57896044618658097711785492504343953926634992332820282019728792003956564819968 := by decide +kernel
  have hM := clamp_lt xs
  have hN := clamp_lt ys
  have gM := clamp_ge xs
  have gN := clamp_ge ys
  have eM := clamp_eight xs
  have eN := clamp_eight ys
  have fM := clamp_even xs
  have fN := clamp_even ys
  generalize num (clampB xs) = M at *
  generalize num (clampB ys) = N at *
  rw [← uu_B, dhMul_uu on_B N hN fN, dhMul_uu (on_mul on_B N) M hM fM, ← mul_mul on_B]
  rw [hp] at hM hN
  exact two_ne_O (no_prod hM hN gM gN eM eN)
end Ed
end Go.Proofs.Ytjllhimhiekchaa
