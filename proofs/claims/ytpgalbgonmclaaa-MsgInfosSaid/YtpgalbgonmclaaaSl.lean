/- slices.Clone, Grow (of nil) and Concat, of bytes: what each hands back, in new memory. Lengths up to 2^46. -/
import Derived.Test.YtpgalbgonmclaaaSha
import Derived.Test.YtpgalbgonmclaaaLib
import Derived.Test.YtpgalbgonmclaaaRow
import Derived.Lib.SliceRun
import Derived.Lib.AppendZeros
/- The tag as a plain function on bytes. No program in sight. Numbers, lengths and vectors as bytes, and what is expanded: plain functions on lists. No program in sight. -/
namespace Go.Proofs.Ytpgalbgonmclaaa
section
namespace Mac
/-- A key of 64 bytes. -/
def k64 (key : List UInt8) : List UInt8 := let k := if 64 < key.length then Sha.sum key else key; k ++ zbs (64 - k.length)
def held (key : List UInt8) (c : UInt8) : List UInt8 := (k64 key).map (· ^^^ c)
def tag (key text : List UInt8) : List UInt8 := Sha.sum (held key 92 ++ Sha.sum (held key 54 ++ text))
end Mac
end
section
namespace Wire
/-- k bytes of a number, the highest first. -/
def be : Nat → Nat → List UInt8
  | 0, _ => []
  | k + 1, n => be k (n / 256) ++ [UInt8.ofNat n]
theorem be_length : ∀ (k n : Nat), (be k n).length = k
  | 0, _ => rfl
  | k + 1, n => by simp [be, be_length k]
theorem be_front : ∀ (k n : Nat), be (k + 1) n = [UInt8.ofNat (n / 256 ^ k)] ++ be k n
  | 0, n => by simp [be]
  | k + 1, n => by
    rw [be, be_front k (n / 256)]
    rw [be]
    simp [Nat.div_div_eq_div_mul, Nat.pow_succ, Nat.mul_comm]
def len (n : Nat) : List UInt8 :=
  if n < 64 then [UInt8.ofNat n]
  else if n < 16384 then [UInt8.ofNat (64 + n / 256), UInt8.ofNat (n % 256)]
  else [UInt8.ofNat (128 + n / 16777216), UInt8.ofNat (n / 65536 % 256), UInt8.ofNat (n / 256 % 256), UInt8.ofNat (n % 256)]
/-- How many bytes a length takes. -/
def lsz (n : Nat) : Nat := if n < 64 then 1 else if n < 16384 then 2 else 4
theorem len_length (n : Nat) : (len n).length = lsz n := by unfold len lsz; split <;> (try split) <;> rfl
theorem lsz_le (n : Nat) : 1 ≤ lsz n ∧ lsz n ≤ 4 := by unfold lsz; split <;> (try split) <;> omega
theorem ofNat_eq {a b : Nat} (h : a % 256 = b % 256) : UInt8.ofNat a = UInt8.ofNat b := UInt8.toNat_inj.1 (by simp [UInt8.toNat_ofNat', h])
/-- The code's way: the kind in the two highest bits. -/
theorem len_be (n : Nat) (h : n < 1073741824) : be (lsz n) (lsz n / 2 * 2 ^ (8 * lsz n - 2) + n) = len n := by
  unfold len lsz
  by_cases h1 : n < 64
  · simp [h1, be]
  · by_cases h2 : n < 16384
    · simp only [h1, h2, if_true, if_false, be, List.nil_append, List.cons_append]
      congr 1
      · exact ofNat_eq (by omega)
      · congr 1
        exact ofNat_eq (by omega)
    · simp only [h1, h2, if_false, be, List.nil_append, List.cons_append]
      congr 1
      · exact ofNat_eq (by omega)
      · congr 1
        · exact ofNat_eq (by omega)
        · congr 1
          · exact ofNat_eq (by omega)
          · congr 1
            exact ofNat_eq (by omega)
def vec (v : List UInt8) : List UInt8 := len v.length ++ v
theorem vec_length (v : List UInt8) : (vec v).length = lsz v.length + v.length := by simp [vec, len_length]
end Wire
namespace Kdf
def T (secret info : List UInt8) : Nat → List UInt8
  | 0 => []
  | k + 1 => Mac.tag secret (T secret info k ++ info ++ [UInt8.ofNat (k + 1)])
def okm (secret info : List UInt8) : Nat → List UInt8
  | 0 => []
  | k + 1 => okm secret info k ++ T secret info (k + 1)
/-- n bytes. -/
def expand (s i : List UInt8) (n : Nat) : List UInt8 := (okm s i ((n + 31) / 32)).take n
def mls : List UInt8 := [77, 76, 83, 32, 49, 46, 48, 32]
def info (label context : List UInt8) (n : Nat) : List UInt8 := Wire.be 2 n ++ Wire.vec (mls ++ label) ++ Wire.vec context
def label (secret l context : List UInt8) (n : Nat) : List UInt8 := expand secret (info l context n) n
end Kdf
end
end Go.Proofs.Ytpgalbgonmclaaa

namespace Go.Proofs.Ytpgalbgonmclaaa
open Go.RowKit

theorem Own.made (w : World) (base cap : Nat) (cur : Array Value) (hb : base ≤ w.heap.size) (hm : cap ≤ maxLen) (hs : cur.size = cap) : Own (w.alloc (.cells cur 5)) base (some ⟨w.heap.size, 0, none⟩) 0 cap [] :=
  World.ownsRow_made w cur cap hb hm (by omega)

set_option maxHeartbeats 400000 in
theorem clone_any (A : Option Addr) (n c : Nat) (xs : List UInt8) (w : World) (ha : Bs w A n xs) (hn : n ≤ 140737488355328) :
    Calls Try.prog 180 #[.slice A n c] w fun e w' => ∃ A' c', e = .returned (.slice A' n c') ∧ Own w' w.heap.size A' n c' xs ∧ Below w.heap.size w w' := by
  have heq := fun (w : World) => Lib.run_eql_slice_nil (P := Try.prog) w _ _ A n c 0 0 Try.underlying22
  rcases A with _ | ad
  · have hx : xs = [] := by
      rcases ha.2 with h | ⟨b, off, h, _⟩
      · simpa using h
      · cases h
    have hn0 : n = 0 := by rw [← ha.1, hx]; rfl
    subst hx; subst hn0
    go_enter Try.func180, Try.ntmps180
    go_wp2
    go_ret
    exact ⟨none, 0, rfl, Own.empty _ _, Below.refl _ _⟩
  · have HA := Lib.hid ha
    clear ha
    go_enter Try.func180, Try.ntmps180
    go_wp2_with (at_builtin; refine app_own (w0 := w) rfl _ _ _ rfl _ _ eltB w.heap.size _ 0 [] rfl (Own.made w w.heap.size 0 #[] (Nat.le_refl _) (by unfold maxLen; omega) rfl) (some ad) n c (xs.map bv) rfl (by rw [List.length_map]; exact HA.out.1) (HA.out.2.below ((Below.refl _ _).alloc (Nat.le_refl _) _)) (by intro u hu; exact bv_one u hu) ?_ ?_ ((Below.refl _ _).alloc (Nat.le_refl _) _) ?_ ?_; rotate_right; intro A2 c2 w2 hown2 hbw2 _ _)
    · go_ret
      refine ⟨A2, c2, rfl, ?_, hbw2⟩
      rw [Nat.zero_add] at hown2
      exact hown2
    · omega
    · omega
    · simp

end Go.Proofs.Ytpgalbgonmclaaa
