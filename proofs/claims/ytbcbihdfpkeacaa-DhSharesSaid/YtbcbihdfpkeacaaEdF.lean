/- Keys are made even and below 2^255; clamping once more changes nothing; two have one secret. No program in sight. -/
import Derived.Test.YtbcbihdfpkeacaaEdD
import Derived.Test.YtbcbihdfpkeacaaEdE
namespace Go.Proofs.Ytbcbihdfpkeacaa
namespace Ed
open Fp
theorem num_first : ∀ l : List UInt8, num l % 256 = (l.getD 0 0).toNat
  | [] => rfl
  | x :: l => by
    have := x.toNat_lt
    show (x.toNat + 256 * num l) % 256 = x.toNat
    omega
theorem clamp_first (xs : List UInt8) : ((clampB xs).getD 0 0).toNat = ((pad xs).getD 0 0).toNat / 8 * 8 := by
  have hl : (pad xs).length = 32 := pad_length xs
  have hb := ((pad xs).getD 0 0).toNat_lt
  unfold clampB
  rw [List.getD_eq_getElem?_getD, List.getElem?_set_ne (by omega), List.getElem?_set_self (by omega)]
  show (UInt8.ofNat (((pad xs).getD 0 0).toNat / 8 * 8)).toNat = _
  rw [UInt8.toNat_ofNat']; omega
theorem clamp_last (xs : List UInt8) : ((clampB xs).getD 31 0).toNat = ((pad xs).getD 31 0).toNat % 64 + 64 := by
  have hl : (pad xs).length = 32 := pad_length xs
  unfold clampB
  rw [List.getD_eq_getElem?_getD, List.getElem?_set_self (by rw [List.length_set]; omega)]
  show (UInt8.ofNat (((pad xs).getD 31 0).toNat % 64 + 64)).toNat = _
  rw [UInt8.toNat_ofNat']; omega
theorem clamp_even (xs : List UInt8) : num (clampB xs) % 2 = 0 := by
  have h1 := num_first (clampB xs)
  rw [clamp_first] at h1
  omega
theorem clamp_lt (xs : List UInt8) : num (clampB xs) < 2 ^ 255 := by
  rw [← top_pow]
  have h := high_bit (clampB_length xs)
  rw [clamp_last] at h
  have : num (clampB xs) / top = 0 := by rw [h]; omega
  exact (Nat.div_eq_zero_iff.1 this).resolve_left (by unfold top; omega)
theorem set_self {l : List UInt8} {i : Nat} (x : UInt8) (h : x = l.getD i 0) : l.set i x = l := by
  subst h
  by_cases hi : i < l.length
  · rw [List.getD_eq_getElem?_getD, List.getElem?_eq_getElem hi]; exact List.set_getElem_self hi
  · exact List.set_eq_of_length_le (by omega)
theorem clamp_idem (xs : List UInt8) : clampB (clampB xs) = clampB xs := by
  have h0 := clamp_first xs
  have h1 := clamp_last xs
  have hl := clampB_length xs
  generalize clampB xs = C at *
  unfold clampB
  have e0 : C.set 0 (UInt8.ofNat ((C.getD 0 0).toNat / 8 * 8)) = C := set_self _ (UInt8.toNat_inj.1 (by rw [UInt8.toNat_ofNat', h0]; have := ((pad xs).getD 0 0).toNat_lt; omega))
  have e1 : C.set 31 (UInt8.ofNat ((C.getD 31 0).toNat % 64 + 64)) = C := set_self _ (UInt8.toNat_inj.1 (by rw [UInt8.toNat_ofNat', h1]; omega))
  rw [pad_full hl, e0, e1]
end Ed
end Go.Proofs.Ytbcbihdfpkeacaa
