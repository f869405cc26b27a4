/- The digest as plain functions on lists of bytes and numbers, with the small laws of its words. No conditions; no program in sight. -/
import Derived.Laws.BitsAllLaws
namespace Go.Proofs.Ytjllhimhiekchaa
namespace Sha

def rotr (x n : Nat) : Nat := x / 2 ^ n + x % 2 ^ n * 2 ^ (32 - n)
def s0 (x : Nat) : Nat := (rotr x 7 ^^^ rotr x 18) ^^^ (x / 8)
def s1 (x : Nat) : Nat := (rotr x 17 ^^^ rotr x 19) ^^^ (x / 1024)
def S0 (x : Nat) : Nat := (rotr x 2 ^^^ rotr x 13) ^^^ rotr x 22
def S1 (x : Nat) : Nat := (rotr x 6 ^^^ rotr x 11) ^^^ rotr x 25
def ch (e f g : Nat) : Nat := (e &&& f) ^^^ ((4294967295 - e) &&& g)
def maj (a b c : Nat) : Nat := ((a &&& b) ^^^ (a &&& c)) ^^^ (b &&& c)

/-- The t-th word of a block, the highest byte first. -/
def be4 (l : List UInt8) (t : Nat) : Nat := (l.getD (4 * t) 0).toNat * 16777216 + (l.getD (4 * t + 1) 0).toNat * 65536 + (l.getD (4 * t + 2) 0).toNat * 256 + (l.getD (4 * t + 3) 0).toNat
def w16 (l : List UInt8) : Nat → List Nat
  | 0 => []
  | k + 1 => w16 l k ++ [be4 l k]
def nextW (p : List Nat) (k : Nat) : Nat := (s1 (p.getD (k + 14) 0) + p.getD (k + 9) 0 + s0 (p.getD (k + 1) 0) + p.getD k 0) % 4294967296
/-- The words of a block: 16 of its own, then k more. -/
def ext (m : List Nat) : Nat → List Nat
  | 0 => m
  | k + 1 => ext m k ++ [nextW (ext m k) k]
def words (l : List UInt8) : List Nat := ext (w16 l 16) 48

structure S8 where
  (a b c d e f g h : Nat)
def S8.list (s : S8) : List Nat := [s.a, s.b, s.c, s.d, s.e, s.f, s.g, s.h]
def S8.ok (s : S8) : Prop := s.a < 4294967296 ∧ s.b < 4294967296 ∧ s.c < 4294967296 ∧ s.d < 4294967296 ∧ s.e < 4294967296 ∧ s.f < 4294967296 ∧ s.g < 4294967296 ∧ s.h < 4294967296

def K : List Nat := [
  0x428a2f98, 0x71374491, 0xb5c0fbcf, 0xe9b5dba5, 0x3956c25b, 0x59f111f1, 0x923f82a4, 0xab1c5ed5,
  0xd807aa98, 0x12835b01, 0x243185be, 0x550c7dc3, 0x72be5d74, 0x80deb1fe, 0x9bdc06a7, 0xc19bf174,
  0xe49b69c1, 0xefbe4786, 0x0fc19dc6, 0x240ca1cc, 0x2de92c6f, 0x4a7484aa, 0x5cb0a9dc, 0x76f988da,
  0x983e5152, 0xa831c66d, 0xb00327c8, 0xbf597fc7, 0xc6e00bf3, 0xd5a79147, 0x06ca6351, 0x14292967,
  0x27b70a85, 0x2e1b2138, 0x4d2c6dfc, 0x53380d13, 0x650a7354, 0x766a0abb, 0x81c2c92e, 0x92722c85,
  0xa2bfe8a1, 0xa81a664b, 0xc24b8b70, 0xc76c51a3, 0xd192e819, 0xd6990624, 0xf40e3585, 0x106aa070,
  0x19a4c116, 0x1e376c08, 0x2748774c, 0x34b0bcb5, 0x391c0cb3, 0x4ed8aa4a, 0x5b9cca4f, 0x682e6ff3,
  0x748f82ee, 0x78a5636f, 0x84c87814, 0x8cc70208, 0x90befffa, 0xa4506ceb, 0xbef9a3f7, 0xc67178f2]
def H0 : List Nat := [0x6a09e667, 0xbb67ae85, 0x3c6ef372, 0xa54ff53a, 0x510e527f, 0x9b05688c, 0x1f83d9ab, 0x5be0cd19]
def IV : S8 := ⟨0x6a09e667, 0xbb67ae85, 0x3c6ef372, 0xa54ff53a, 0x510e527f, 0x9b05688c, 0x1f83d9ab, 0x5be0cd19⟩

def T1 (s : S8) (k w : Nat) : Nat := s.h + S1 s.e + ch s.e s.f s.g + k + w
def T2 (s : S8) : Nat := S0 s.a + maj s.a s.b s.c
def rnd (s : S8) (k w : Nat) : S8 :=
  ⟨(T1 s k w + T2 s) % 4294967296, s.a, s.b, s.c, (s.d + T1 s k w) % 4294967296, s.e, s.f, s.g⟩
/-- The first t steps. -/
def rounds (w : List Nat) (s : S8) : Nat → S8
  | 0 => s
  | t + 1 => rnd (rounds w s t) (K.getD t 0) (w.getD t 0)
def S8.add (s x : S8) : S8 := ⟨(s.a + x.a) % 4294967296, (s.b + x.b) % 4294967296, (s.c + x.c) % 4294967296, (s.d + x.d) % 4294967296,
  (s.e + x.e) % 4294967296, (s.f + x.f) % 4294967296, (s.g + x.g) % 4294967296, (s.h + x.h) % 4294967296⟩
def step (s : S8) (b : List UInt8) : S8 := s.add (rounds (words b) s 64)

def be64 (n : Nat) : List UInt8 := [UInt8.ofNat (n / 72057594037927936), UInt8.ofNat (n / 281474976710656), UInt8.ofNat (n / 1099511627776), UInt8.ofNat (n / 4294967296),
  UInt8.ofNat (n / 16777216), UInt8.ofNat (n / 65536), UInt8.ofNat (n / 256), UInt8.ofNat n]
def zeros (n : Nat) : Nat := (119 - n % 64) % 64
def pad (n : Nat) : List UInt8 := 128 :: (List.replicate (zeros n) 0 ++ be64 (n * 8))
/-- The first k blocks. -/
def blocks (s : S8) (l : List UInt8) : Nat → S8
  | 0 => s
  | k + 1 => step (blocks s l k) ((l.drop (64 * k)).take 64)
def be32 (x : Nat) : List UInt8 := [UInt8.ofNat (x / 16777216), UInt8.ofNat (x / 65536), UInt8.ofNat (x / 256), UInt8.ofNat x]
def S8.bytes (s : S8) : List UInt8 := s.list.flatMap be32
/-- The digest. -/
def sum (b : List UInt8) : List UInt8 := (blocks IV (b ++ pad b.length) ((b ++ pad b.length).length / 64)).bytes

theorem rotr_lt {x n : Nat} (hx : x < 4294967296) (hn : n ≤ 32) : rotr x n < 4294967296 := by
  unfold rotr
  have h1 : x / 2 ^ n < 2 ^ (32 - n) := by
    rw [Nat.div_lt_iff_lt_mul (Nat.two_pow_pos n), ← Nat.pow_add, Nat.sub_add_cancel hn]; exact hx
  have h2 : x % 2 ^ n < 2 ^ n := Nat.mod_lt _ (Nat.two_pow_pos n)
  have h3 : x % 2 ^ n * 2 ^ (32 - n) + 2 ^ (32 - n) ≤ 4294967296 := by
    have : (x % 2 ^ n + 1) * 2 ^ (32 - n) ≤ 2 ^ n * 2 ^ (32 - n) := Nat.mul_le_mul_right _ h2
    rw [← Nat.pow_add, Nat.add_sub_cancel' hn, Nat.add_mul] at this
    omega
  omega
theorem xor_lt {x y : Nat} (hx : x < 4294967296) (hy : y < 4294967296) : x ^^^ y < 4294967296 := Nat.xor_lt_two_pow (n := 32) hx hy
theorem and_lt {x y : Nat} (hx : x < 4294967296) : x &&& y < 4294967296 := Nat.lt_of_le_of_lt Nat.and_le_left hx
theorem s0_lt {x : Nat} (hx : x < 4294967296) : s0 x < 4294967296 := xor_lt (xor_lt (rotr_lt hx (by omega)) (rotr_lt hx (by omega))) (by omega)
theorem s1_lt {x : Nat} (hx : x < 4294967296) : s1 x < 4294967296 := xor_lt (xor_lt (rotr_lt hx (by omega)) (rotr_lt hx (by omega))) (by omega)
theorem S0_lt {x : Nat} (hx : x < 4294967296) : S0 x < 4294967296 := xor_lt (xor_lt (rotr_lt hx (by omega)) (rotr_lt hx (by omega))) (rotr_lt hx (by omega))
theorem S1_lt {x : Nat} (hx : x < 4294967296) : S1 x < 4294967296 := xor_lt (xor_lt (rotr_lt hx (by omega)) (rotr_lt hx (by omega))) (rotr_lt hx (by omega))
theorem ch_lt {e f g : Nat} (he : e < 4294967296) : ch e f g < 4294967296 := xor_lt (and_lt he) (and_lt (by omega))
theorem maj_lt {a b c : Nat} (ha : a < 4294967296) (hb : b < 4294967296) : maj a b c < 4294967296 := xor_lt (xor_lt (and_lt ha) (and_lt ha)) (and_lt hb)
/-- The turn as the code does it: two shifts, put together. -/
theorem rotr_or {x n : Nat} (hx : x < 4294967296) (hn : n ≤ 32) : (x * 2 ^ (32 - n) % 4294967296) ||| (x / 2 ^ n) = rotr x n := by
  have hp : (4294967296 : Nat) = 2 ^ n * 2 ^ (32 - n) := by rw [← Nat.pow_add, Nat.add_sub_cancel' hn]
  have h1 : x * 2 ^ (32 - n) % 4294967296 = x % 2 ^ n * 2 ^ (32 - n) := by rw [hp, Nat.mul_mod_mul_right]
  have h2 : x / 2 ^ n < 2 ^ (32 - n) := by
    rw [Nat.div_lt_iff_lt_mul (Nat.two_pow_pos n), ← Nat.pow_add, Nat.sub_add_cancel hn]; exact hx
  rw [h1, nat_join (32 - n) _ _ (by simp) h2]
  unfold rotr
  omega

theorem be4_lt (l : List UInt8) (t : Nat) : be4 l t < 4294967296 := by
  unfold be4
  have h : ∀ x : UInt8, x.toNat < 256 := fun x => x.toNat_lt
  have h0 := h (l.getD (4 * t) 0); have h1 := h (l.getD (4 * t + 1) 0); have h2 := h (l.getD (4 * t + 2) 0); have h3 := h (l.getD (4 * t + 3) 0)
  omega
theorem w16_length (l : List UInt8) (k : Nat) : (w16 l k).length = k := by induction k with
  | zero => rfl
  | succ k ih => simp [w16, ih]
theorem ext_length (m : List Nat) (k : Nat) : (ext m k).length = m.length + k := by induction k with
  | zero => rfl
  | succ k ih => simp [ext, ih]; omega
theorem words_length (l : List UInt8) : (words l).length = 64 := by simp [words, ext_length, w16_length]
theorem w16_lt (l : List UInt8) (k : Nat) : ∀ x ∈ w16 l k, x < 4294967296 := by induction k with
  | zero => simp [w16]
  | succ k ih =>
    intro x hx
    simp only [w16, List.mem_append, List.mem_singleton] at hx
    rcases hx with hx | rfl
    · exact ih x hx
    · exact be4_lt l k
theorem ext_lt (m : List Nat) (hm : ∀ x ∈ m, x < 4294967296) (k : Nat) : ∀ x ∈ ext m k, x < 4294967296 := by induction k with
  | zero => exact hm
  | succ k ih =>
    intro x hx
    simp only [ext, List.mem_append, List.mem_singleton] at hx
    rcases hx with hx | rfl
    · exact ih x hx
    · unfold nextW; omega
theorem words_lt (l : List UInt8) : ∀ x ∈ words l, x < 4294967296 := ext_lt _ (w16_lt l 16) 48
theorem getD_lt {m : List Nat} (hm : ∀ x ∈ m, x < 4294967296) (k : Nat) : m.getD k 0 < 4294967296 := by
  rw [List.getD_eq_getElem?_getD]
  rcases h : m[k]? with _ | x
  · simp
  · simpa [h] using hm x (List.mem_of_getElem? h)
theorem K_lt : ∀ x ∈ K, x < 4294967296 := by decide +kernel
theorem rnd_ok {s : S8} (h : s.ok) (k w : Nat) : (rnd s k w).ok := by
  obtain ⟨h1, h2, h3, h4, h5, h6, h7, h8⟩ := h
  exact ⟨Nat.mod_lt _ (by omega), h1, h2, h3, Nat.mod_lt _ (by omega), h5, h6, h7⟩
theorem rounds_ok (w : List Nat) {s : S8} (h : s.ok) (t : Nat) : (rounds w s t).ok := by induction t with
  | zero => exact h
  | succ t ih => exact rnd_ok ih _ _
theorem add_ok (s x : S8) : (s.add x).ok := ⟨Nat.mod_lt _ (by omega), Nat.mod_lt _ (by omega), Nat.mod_lt _ (by omega), Nat.mod_lt _ (by omega), Nat.mod_lt _ (by omega), Nat.mod_lt _ (by omega), Nat.mod_lt _ (by omega), Nat.mod_lt _ (by omega)⟩
theorem step_ok (s : S8) (b : List UInt8) : (step s b).ok := add_ok _ _
theorem IV_ok : IV.ok := by unfold S8.ok IV; decide
theorem blocks_ok {s : S8} (h : s.ok) (l : List UInt8) (k : Nat) : (blocks s l k).ok := by cases k with
  | zero => exact h
  | succ k => exact step_ok _ _
theorem pad_length (n : Nat) : (pad n).length = 9 + zeros n := by simp [pad, be64]; omega
theorem padded_mod (n : Nat) : (n + (pad n).length) % 64 = 0 := by rw [pad_length]; unfold zeros; omega
theorem sum_length (b : List UInt8) : (sum b).length = 32 := rfl
/-- The first k of two lists are added, the others are the first list's. -/
def mixl (l m : List Nat) (k : Nat) : List Nat := (List.zipWith (fun x y => (x + y) % 4294967296) l m).take k ++ l.drop k
theorem mixl_zero (l m : List Nat) : mixl l m 0 = l := by simp [mixl]
theorem mixl_length {l m : List Nat} (h : l.length = m.length) {k : Nat} (hk : k ≤ l.length) : (mixl l m k).length = l.length := by
  simp [mixl, ← h]; omega
theorem mixl_get {l m : List Nat} (h : l.length = m.length) {k : Nat} (hk : k < l.length) : (mixl l m k).getD k 0 = l.getD k 0 := by
  have e : ((List.zipWith (fun x y => (x + y) % 4294967296) l m).take k).length = k := by simp [← h]; omega
  simp only [mixl, List.getD_eq_getElem?_getD]
  rw [List.getElem?_append_right (by omega), e, Nat.sub_self, List.getElem?_drop, Nat.add_zero]
theorem mixl_set {l m : List Nat} (h : l.length = m.length) {k : Nat} (hk : k < l.length) : (mixl l m k).set k ((l.getD k 0 + m.getD k 0) % 4294967296) = mixl l m (k + 1) := by
  have e : ((List.zipWith (fun x y => (x + y) % 4294967296) l m).take k).length = k := by simp [← h]; omega
  have hz : k < (List.zipWith (fun x y => (x + y) % 4294967296) l m).length := by simp [← h]; omega
  simp only [mixl]
  rw [List.set_append_right _ _ (by omega), e, Nat.sub_self, List.take_succ_eq_append_getElem hz, List.drop_eq_getElem_cons hk]
  have h1 : l.getD k 0 = l[k] := by simp [hk]
  have h2 : m.getD k 0 = m[k]'(by omega) := by simp [show k < m.length by omega]
  rw [h1, h2]
  simp
  rw [List.drop_eq_getElem_cons hk]
  rfl
end Sha
end Go.Proofs.Ytjllhimhiekchaa
