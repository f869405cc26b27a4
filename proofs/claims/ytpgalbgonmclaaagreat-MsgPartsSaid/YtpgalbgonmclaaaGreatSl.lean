/- slices.Clone, Grow (of nil) and Concat, of bytes: what each hands back, in new memory. Lengths up to 2^46. -/
import Derived.Laws.BitsAllLaws
import Derived.Test.YtpgalbgonmclaaaGreatLib
import Derived.Test.YtpgalbgonmclaaaGreatRow
import Derived.Lib.SliceRun
import Derived.Lib.AppendZeros
/- The digest as plain functions on lists of bytes and numbers, with the small laws of its words. No conditions; no program in sight. -/
namespace Go.Proofs.YtpgalbgonmclaaaGreat
namespace Sha

def rotr (x n : Nat) : Nat := x / 2 ^ n + x % 2 ^ n * 2 ^ (32 - n)
def s0 (x : Nat) : Nat := (rotr x 7 ^^^ rotr x 18) ^^^ (x / 8)
def s1 (x : Nat) : Nat := (rotr x 17 ^^^ rotr x 19) ^^^ (x / 1024)
def S0 (x : Nat) : Nat := (rotr x 2 ^^^ rotr x 13) ^^^ rotr x 22
def S1 (x : Nat) : Nat := (rotr x 6 ^^^ rotr x 11) ^^^ rotr x 25
def ch (e f g : Nat) : Nat := (e &&& f) ^^^ ((4294967295 - e) &&& g)
def maj (a b c : Nat) : Nat := ((a &&& b) ^^^ (a &&& c)) ^^^ (b &&& c)

/-- The t-th word of a block, the highest byte first. -/
def be4 (l : List UInt8) (t : Nat) : Nat := (l.getD (4 * t) 0).toNat * 16777216 + (l.getD (4 * t + 1) 0).toNat * 65536 + (l.getD (4 * t + 2) 0).toNat * 256 + (l.getD (4 * t + 3) 0).toNat
def w16 (l : List UInt8) : Nat → List Nat
  | 0 => []
  | k + 1 => w16 l k ++ [be4 l k]
def nextW (p : List Nat) (k : Nat) : Nat := (s1 (p.getD (k + 14) 0) + p.getD (k + 9) 0 + s0 (p.getD (k + 1) 0) + p.getD k 0) % 4294967296
/-- The words of a block: 16 of its own, then k more. -/
def ext (m : List Nat) : Nat → List Nat
  | 0 => m
  | k + 1 => ext m k ++ [nextW (ext m k) k]
def words (l : List UInt8) : List Nat := ext (w16 l 16) 48

structure S8 where
  (a b c d e f g h : Nat)
def S8.list (s : S8) : List Nat := [s.a, s.b, s.c, s.d, s.e, s.f, s.g, s.h]
def S8.ok (s : S8) : Prop := s.a < 4294967296 ∧ s.b < 4294967296 ∧ s.c < 4294967296 ∧ s.d < 4294967296 ∧ s.e < 4294967296 ∧ s.f < 4294967296 ∧ s.g < 4294967296 ∧ s.h < 4294967296

def K : List Nat := [
  0x428a2f98, 0x71374491, 0xb5c0fbcf, 0xe9b5dba5, 0x3956c25b, 0x59f111f1, 0x923f82a4, 0xab1c5ed5,
  0xd807aa98, 0x12835b01, 0x243185be, 0x550c7dc3, 0x72be5d74, 0x80deb1fe, 0x9bdc06a7, 0xc19bf174,
  0xe49b69c1, 0xefbe4786, 0x0fc19dc6, 0x240ca1cc, 0x2de92c6f, 0x4a7484aa, 0x5cb0a9dc, 0x76f988da,
  0x983e5152, 0xa831c66d, 0xb00327c8, 0xbf597fc7, 0xc6e00bf3, 0xd5a79147, 0x06ca6351, 0x14292967,
  0x27b70a85, 0x2e1b2138, 0x4d2c6dfc, 0x53380d13, 0x650a7354, 0x766a0abb, 0x81c2c92e, 0x92722c85,
  0xa2bfe8a1, 0xa81a664b, 0xc24b8b70, 0xc76c51a3, 0xd192e819, 0xd6990624, 0xf40e3585, 0x106aa070,
  0x19a4c116, 0x1e376c08, 0x2748774c, 0x34b0bcb5, 0x391c0cb3, 0x4ed8aa4a, 0x5b9cca4f, 0x682e6ff3,
  0x748f82ee, 0x78a5636f, 0x84c87814, 0x8cc70208, 0x90befffa, 0xa4506ceb, 0xbef9a3f7, 0xc67178f2]
def H0 : List Nat := [0x6a09e667, 0xbb67ae85, 0x3c6ef372, 0xa54ff53a, 0x510e527f, 0x9b05688c, 0x1f83d9ab, 0x5be0cd19]
def IV : S8 := ⟨0x6a09e667, 0xbb67ae85, 0x3c6ef372, 0xa54ff53a, 0x510e527f, 0x9b05688c, 0x1f83d9ab, 0x5be0cd19⟩

def T1 (s : S8) (k w : Nat) : Nat := s.h + S1 s.e + ch s.e s.f s.g + k + w
def T2 (s : S8) : Nat := S0 s.a + maj s.a s.b s.c
def rnd (s : S8) (k w : Nat) : S8 :=
  ⟨(T1 s k w + T2 s) % 4294967296, s.a, s.b, s.c, (s.d + T1 s k w) % 4294967296, s.e, s.f, s.g⟩
/-- The first t steps. -/
def rounds (w : List Nat) (s : S8) : Nat → S8
  | 0 => s
  | t + 1 => rnd (rounds w s t) (K.getD t 0) (w.getD t 0)
def S8.add (s x : S8) : S8 := ⟨(s.a + x.a) % 4294967296, (s.b + x.b) % 4294967296, (s.c + x.c) % 4294967296, (s.d + x.d) % 4294967296,
  (s.e + x.e) % 4294967296, (s.f + x.f) % 4294967296, (s.g + x.g) % 4294967296, (s.h + x.h) % 4294967296⟩
def step (s : S8) (b : List UInt8) : S8 := s.add (rounds (words b) s 64)

def be64 (n : Nat) : List UInt8 := [UInt8.ofNat (n / 72057594037927936), UInt8.ofNat (n / 281474976710656), UInt8.ofNat (n / 1099511627776), UInt8.ofNat (n / 4294967296),
  UInt8.ofNat (n / 16777216), UInt8.ofNat (n / 65536), UInt8.ofNat (n / 256), UInt8.ofNat n]
def zeros (n : Nat) : Nat := (119 - n % 64) % 64
def pad (n : Nat) : List UInt8 := 128 :: (List.replicate (zeros n) 0 ++ be64 (n * 8))
/-- The first k blocks. -/
def blocks (s : S8) (l : List UInt8) : Nat → S8
  | 0 => s
  | k + 1 => step (blocks s l k) ((l.drop (64 * k)).take 64)
def be32 (x : Nat) : List UInt8 := [UInt8.ofNat (x / 16777216), UInt8.ofNat (x / 65536), UInt8.ofNat (x / 256), UInt8.ofNat x]
def S8.bytes (s : S8) : List UInt8 := s.list.flatMap be32
/-- The digest. -/
def sum (b : List UInt8) : List UInt8 := (blocks IV (b ++ pad b.length) ((b ++ pad b.length).length / 64)).bytes

end Sha
end Go.Proofs.YtpgalbgonmclaaaGreat

/- The tag as a plain function on bytes. No program in sight. Numbers, lengths and vectors as bytes, and what is expanded: plain functions on lists. No program in sight. -/
namespace Go.Proofs.YtpgalbgonmclaaaGreat
section
namespace Mac
/-- A key of 64 bytes. -/
def k64 (key : List UInt8) : List UInt8 := let k := if 64 < key.length then Sha.sum key else key; k ++ zbs (64 - k.length)
def held (key : List UInt8) (c : UInt8) : List UInt8 := (k64 key).map (· ^^^ c)
def tag (key text : List UInt8) : List UInt8 := Sha.sum (held key 92 ++ Sha.sum (held key 54 ++ text))
end Mac
end
section
namespace Wire
/-- k bytes of a number, the highest first. -/
def be : Nat → Nat → List UInt8
  | 0, _ => []
  | k + 1, n => be k (n / 256) ++ [UInt8.ofNat n]
def len (n : Nat) : List UInt8 :=
  if n < 64 then [UInt8.ofNat n]
  else if n < 16384 then [UInt8.ofNat (64 + n / 256), UInt8.ofNat (n % 256)]
  else [UInt8.ofNat (128 + n / 16777216), UInt8.ofNat (n / 65536 % 256), UInt8.ofNat (n / 256 % 256), UInt8.ofNat (n % 256)]
/-- How many bytes a length takes. -/
def lsz (n : Nat) : Nat := if n < 64 then 1 else if n < 16384 then 2 else 4
theorem len_length (n : Nat) : (len n).length = lsz n := by unfold len lsz; split <;> (try split) <;> rfl
theorem lsz_le (n : Nat) : 1 ≤ lsz n ∧ lsz n ≤ 4 := by unfold lsz; split <;> (try split) <;> omega
theorem ofNat_eq {a b : Nat} (h : a % 256 = b % 256) : UInt8.ofNat a = UInt8.ofNat b := UInt8.toNat_inj.1 (by simp [UInt8.toNat_ofNat', h])
/-- The code's way: the kind in the two highest bits. -/
theorem len_be (n : Nat) (h : n < 1073741824) : be (lsz n) (lsz n / 2 * 2 ^ (8 * lsz n - 2) + n) = len n := by
  unfold len lsz
  by_cases h1 : n < 64
  · simp [h1, be]
  · by_cases h2 : n < 16384
    · simp only [h1, h2, if_true, if_false, be, List.nil_append, List.cons_append]
      congr 1
      · exact ofNat_eq (by omega)
      · congr 1
        exact ofNat_eq (by omega)
    · simp only [h1, h2, if_false, be, List.nil_append, List.cons_append]
      congr 1
      · exact ofNat_eq (by omega)
      · congr 1
        · exact ofNat_eq (by omega)
        · congr 1
          · exact ofNat_eq (by omega)
          · congr 1
            exact ofNat_eq (by omega)
def vec (v : List UInt8) : List UInt8 := len v.length ++ v
theorem vec_length (v : List UInt8) : (vec v).length = lsz v.length + v.length := by simp [vec, len_length]
end Wire
namespace Kdf
def T (secret info : List UInt8) : Nat → List UInt8
  | 0 => []
  | k + 1 => Mac.tag secret (T secret info k ++ info ++ [UInt8.ofNat (k + 1)])
def okm (secret info : List UInt8) : Nat → List UInt8
  | 0 => []
  | k + 1 => okm secret info k ++ T secret info (k + 1)
/-- n bytes. -/
def expand (s i : List UInt8) (n : Nat) : List UInt8 := (okm s i ((n + 31) / 32)).take n
def mls : List UInt8 := [77, 76, 83, 32, 49, 46, 48, 32]
def info (label context : List UInt8) (n : Nat) : List UInt8 := Wire.be 2 n ++ Wire.vec (mls ++ label) ++ Wire.vec context
def label (secret l context : List UInt8) (n : Nat) : List UInt8 := expand secret (info l context n) n
end Kdf
end
end Go.Proofs.YtpgalbgonmclaaaGreat

namespace Go.Proofs.YtpgalbgonmclaaaGreat
open Go.RowKit

theorem Own.made (w : World) (base cap : Nat) (cur : Array Value) (hb : base ≤ w.heap.size) (hm : cap ≤ maxLen) (hs : cur.size = cap) : Own (w.alloc (.cells cur 5)) base (some ⟨w.heap.size, 0, none⟩) 0 cap [] :=
  World.ownsRow_made w cur cap hb hm (by omega)

set_option maxHeartbeats 400000 in
theorem clone_any (A : Option Addr) (n c : Nat) (xs : List UInt8) (w : World) (ha : Bs w A n xs) (hn : n ≤ 140737488355328) :
    Calls Tryz.prog 132 #[.slice A n c] w fun e w' => ∃ A' c', e = .returned (.slice A' n c') ∧ Own w' w.heap.size A' n c' xs ∧ Below w.heap.size w w' := by
  have heq := fun (w : World) => Lib.run_eql_slice_nil (P := Tryz.prog) w _ _ A n c 0 0 Tryz.underlying22
  rcases A with _ | ad
  · have hx : xs = [] := by
      rcases ha.2 with h | ⟨b, off, h, _⟩
      · simpa using h
      · cases h
    have hn0 : n = 0 := by rw [← ha.1, hx]; rfl
    subst hx; subst hn0
    go_enter Tryz.func132, Tryz.ntmps132
    go_wp2
    go_ret
    exact ⟨none, 0, rfl, Own.empty _ _, Below.refl _ _⟩
  · have HA := Lib.hid ha
    clear ha
    go_enter Tryz.func132, Tryz.ntmps132
    go_wp2_with (at_builtin; refine app_own (w0 := w) rfl _ _ _ rfl _ _ eltB w.heap.size _ 0 [] rfl (Own.made w w.heap.size 0 #[] (Nat.le_refl _) (by unfold maxLen; omega) rfl) (some ad) n c (xs.map bv) rfl (by rw [List.length_map]; exact HA.out.1) (HA.out.2.below ((Below.refl _ _).alloc (Nat.le_refl _) _)) (by intro u hu; exact bv_one u hu) ?_ ?_ ((Below.refl _ _).alloc (Nat.le_refl _) _) ?_ ?_; rotate_right; intro A2 c2 w2 hown2 hbw2 _ _)
    · go_ret
      refine ⟨A2, c2, rfl, ?_, hbw2⟩
      rw [Nat.zero_add] at hown2
      exact hown2
    · omega
    · omega
    · simp

end Go.Proofs.YtpgalbgonmclaaaGreat
