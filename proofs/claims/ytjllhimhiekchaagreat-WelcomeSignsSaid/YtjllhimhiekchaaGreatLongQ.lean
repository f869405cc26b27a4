/- Numbers as words of 64 bits, the lowest first: plain laws. No program in sight. Roots with 84 bits, plain; words or-ed with a bit. No program in sight. -/
import Derived.Laws.BitsAllLaws
import Derived.Test.YtjllhimhiekchaaGreatSl
/- The long digest as plain functions on lists of bytes and numbers, with the small laws of its words. No conditions; no program in sight. The reference's long digest, its bits and words: plain laws. No program in sight. The reference's words of a block, its padding and its state: plain laws. No program in sight. -/
namespace Go.Proofs.YtjllhimhiekchaaGreat
section
namespace Lng
def rotr (x n : Nat) : Nat := x / 2 ^ n + x % 2 ^ n * 2 ^ (64 - n)
def s0 (x : Nat) : Nat := (rotr x 1 ^^^ rotr x 8) ^^^ (x / 128)
def s1 (x : Nat) : Nat := (rotr x 19 ^^^ rotr x 61) ^^^ (x / 64)
def S0 (x : Nat) : Nat := (rotr x 28 ^^^ rotr x 34) ^^^ rotr x 39
def S1 (x : Nat) : Nat := (rotr x 14 ^^^ rotr x 18) ^^^ rotr x 41
def ch (e f g : Nat) : Nat := (e &&& f) ^^^ ((18446744073709551615 - e) &&& g)
def maj (a b c : Nat) : Nat := ((a &&& b) ^^^ (a &&& c)) ^^^ (b &&& c)
def pre (l : List UInt8) (t : Nat) : Nat → Nat
 | 0 => 0
 | i + 1 => 256 * pre l t i + (l.getD (8 * t + i) 0).toNat
def be8 (l : List UInt8) (t : Nat) : Nat := pre l t 8
def w16 (l : List UInt8) : Nat → List Nat
 | 0 => []
 | k + 1 => w16 l k ++ [be8 l k]
def nextW (p : List Nat) (k : Nat) : Nat := (s1 (p.getD (k + 14) 0) + p.getD (k + 9) 0 + s0 (p.getD (k + 1) 0) + p.getD k 0) % 18446744073709551616
def ext (m : List Nat) : Nat → List Nat
 | 0 => m
 | k + 1 => ext m k ++ [nextW (ext m k) k]
def words (l : List UInt8) : List Nat := ext (w16 l 16) 64
structure S8 where
 (a b c d e f g h : Nat)
def S8.list (s : S8) : List Nat := [s.a, s.b, s.c, s.d, s.e, s.f, s.g, s.h]
def S8.ok (s : S8) : Prop := s.a < 18446744073709551616 ∧ s.b < 18446744073709551616 ∧ s.c < 18446744073709551616 ∧ s.d < 18446744073709551616 ∧ s.e < 18446744073709551616 ∧ s.f < 18446744073709551616 ∧ s.g < 18446744073709551616 ∧ s.h < 18446744073709551616
def K : List Nat := [
 0x428a2f98d728ae22, 0x7137449123ef65cd, 0xb5c0fbcfec4d3b2f, 0xe9b5dba58189dbbc,
 0x3956c25bf348b538, 0x59f111f1b605d019, 0x923f82a4af194f9b, 0xab1c5ed5da6d8118,
 0xd807aa98a3030242, 0x12835b0145706fbe, 0x243185be4ee4b28c, 0x550c7dc3d5ffb4e2,
 0x72be5d74f27b896f, 0x80deb1fe3b1696b1, 0x9bdc06a725c71235, 0xc19bf174cf692694,
 0xe49b69c19ef14ad2, 0xefbe4786384f25e3, 0x0fc19dc68b8cd5b5, 0x240ca1cc77ac9c65,
 0x2de92c6f592b0275, 0x4a7484aa6ea6e483, 0x5cb0a9dcbd41fbd4, 0x76f988da831153b5,
 0x983e5152ee66dfab, 0xa831c66d2db43210, 0xb00327c898fb213f, 0xbf597fc7beef0ee4,
 0xc6e00bf33da88fc2, 0xd5a79147930aa725, 0x06ca6351e003826f, 0x142929670a0e6e70,
 0x27b70a8546d22ffc, 0x2e1b21385c26c926, 0x4d2c6dfc5ac42aed, 0x53380d139d95b3df,
 0x650a73548baf63de, 0x766a0abb3c77b2a8, 0x81c2c92e47edaee6, 0x92722c851482353b,
 0xa2bfe8a14cf10364, 0xa81a664bbc423001, 0xc24b8b70d0f89791, 0xc76c51a30654be30,
 0xd192e819d6ef5218, 0xd69906245565a910, 0xf40e35855771202a, 0x106aa07032bbd1b8,
 0x19a4c116b8d2d0c8, 0x1e376c085141ab53, 0x2748774cdf8eeb99, 0x34b0bcb5e19b48a8,
 0x391c0cb3c5c95a63, 0x4ed8aa4ae3418acb, 0x5b9cca4f7763e373, 0x682e6ff3d6b2b8a3,
 0x748f82ee5defb2fc, 0x78a5636f43172f60, 0x84c87814a1f0ab72, 0x8cc702081a6439ec,
 0x90befffa23631e28, 0xa4506cebde82bde9, 0xbef9a3f7b2c67915, 0xc67178f2e372532b,
 0xca273eceea26619c, 0xd186b8c721c0c207, 0xeada7dd6cde0eb1e, 0xf57d4f7fee6ed178,
 0x06f067aa72176fba, 0x0a637dc5a2c898a6, 0x113f9804bef90dae, 0x1b710b35131c471b,
 0x28db77f523047d84, 0x32caab7b40c72493, 0x3c9ebe0a15c9bebc, 0x431d67c49c100d4c,
 0x4cc5d4becb3e42b6, 0x597f299cfc657e2a, 0x5fcb6fab3ad6faec, 0x6c44198c4a475817]
def H0 : List Nat := [
 0x6a09e667f3bcc908, 0xbb67ae8584caa73b, 0x3c6ef372fe94f82b, 0xa54ff53a5f1d36f1,
 0x510e527fade682d1, 0x9b05688c2b3e6c1f, 0x1f83d9abfb41bd6b, 0x5be0cd19137e2179]
def IV : S8 := ⟨
 0x6a09e667f3bcc908, 0xbb67ae8584caa73b, 0x3c6ef372fe94f82b, 0xa54ff53a5f1d36f1,
 0x510e527fade682d1, 0x9b05688c2b3e6c1f, 0x1f83d9abfb41bd6b, 0x5be0cd19137e2179⟩
def T1 (s : S8) (k w : Nat) : Nat := s.h + S1 s.e + ch s.e s.f s.g + k + w
def T2 (s : S8) : Nat := S0 s.a + maj s.a s.b s.c
def rnd (s : S8) (k w : Nat) : S8 :=
 ⟨(T1 s k w + T2 s) % 18446744073709551616, s.a, s.b, s.c, (s.d + T1 s k w) % 18446744073709551616, s.e, s.f, s.g⟩
def rounds (w : List Nat) (s : S8) : Nat → S8
 | 0 => s
 | t + 1 => rnd (rounds w s t) (K.getD t 0) (w.getD t 0)
def S8.add (s x : S8) : S8 := ⟨(s.a + x.a) % 18446744073709551616, (s.b + x.b) % 18446744073709551616, (s.c + x.c) % 18446744073709551616, (s.d + x.d) % 18446744073709551616,
 (s.e + x.e) % 18446744073709551616, (s.f + x.f) % 18446744073709551616, (s.g + x.g) % 18446744073709551616, (s.h + x.h) % 18446744073709551616⟩
def step (s : S8) (b : List UInt8) : S8 := s.add (rounds (words b) s 80)
def be64 (n : Nat) : List UInt8 := [UInt8.ofNat (n / 72057594037927936), UInt8.ofNat (n / 281474976710656), UInt8.ofNat (n / 1099511627776), UInt8.ofNat (n / 4294967296),
 UInt8.ofNat (n / 16777216), UInt8.ofNat (n / 65536), UInt8.ofNat (n / 256), UInt8.ofNat n]
def zeros (n : Nat) : Nat := (239 - n % 128) % 128
def pad (n : Nat) : List UInt8 := 128 :: (List.replicate (zeros n) 0 ++ (List.replicate 8 0 ++ be64 (n * 8)))
def blocks (s : S8) (l : List UInt8) : Nat → S8
 | 0 => s
 | k + 1 => step (blocks s l k) ((l.drop (128 * k)).take 128)
def S8.bytes (s : S8) : List UInt8 := s.list.flatMap be64
def sum (b : List UInt8) : List UInt8 := (blocks IV (b ++ pad b.length) ((b ++ pad b.length).length / 128)).bytes
theorem rotr_lt {x n : Nat} (hx : x < 18446744073709551616) (hn : n ≤ 64) : rotr x n < 18446744073709551616 := by
 unfold rotr
 have h1 : x / 2 ^ n < 2 ^ (64 - n) := by
  rw [Nat.div_lt_iff_lt_mul (Nat.two_pow_pos n), ← Nat.pow_add, Nat.sub_add_cancel hn]; exact hx
 have h2 : x % 2 ^ n < 2 ^ n := Nat.mod_lt _ (Nat.two_pow_pos n)
 have h3 : x % 2 ^ n * 2 ^ (64 - n) + 2 ^ (64 - n) ≤ 18446744073709551616 := by
  have : (x % 2 ^ n + 1) * 2 ^ (64 - n) ≤ 2 ^ n * 2 ^ (64 - n) := Nat.mul_le_mul_right _ h2
  rw [← Nat.pow_add, Nat.add_sub_cancel' hn, Nat.add_mul] at this
  omega
 omega
theorem xor_lt {x y : Nat} (hx : x < 18446744073709551616) (hy : y < 18446744073709551616) : x ^^^ y < 18446744073709551616 := Nat.xor_lt_two_pow (n := 64) hx hy
theorem and_lt {x y : Nat} (hx : x < 18446744073709551616) : x &&& y < 18446744073709551616 := Nat.lt_of_le_of_lt Nat.and_le_left hx
theorem rotr_or {x n : Nat} (hx : x < 18446744073709551616) (hn : n ≤ 64) : (x * 2 ^ (64 - n) % 18446744073709551616) ||| (x / 2 ^ n) = rotr x n := by
 have hp : (18446744073709551616 : Nat) = 2 ^ n * 2 ^ (64 - n) := by rw [← Nat.pow_add, Nat.add_sub_cancel' hn]
 have h1 : x * 2 ^ (64 - n) % 18446744073709551616 = x % 2 ^ n * 2 ^ (64 - n) := by rw [hp, Nat.mul_mod_mul_right]
 have h2 : x / 2 ^ n < 2 ^ (64 - n) := by
  rw [Nat.div_lt_iff_lt_mul (Nat.two_pow_pos n), ← Nat.pow_add, Nat.sub_add_cancel hn]; exact hx
 rw [h1, nat_join (64 - n) _ _ (by simp) h2]
 unfold rotr
 omega
theorem pre_lt (l : List UInt8) (t i : Nat) : pre l t i < 256 ^ i := by
  induction i with
  | zero => simp [pre]
  | succ i ih =>
    have := (l.getD (8 * t + i) 0).toNat_lt
    simp only [pre, Nat.pow_succ]
    omega
theorem be8_lt (l : List UInt8) (t : Nat) : be8 l t < 18446744073709551616 := pre_lt l t 8
theorem w16_length (l : List UInt8) (k : Nat) : (w16 l k).length = k := by induction k with
 | zero => rfl
 | succ k ih => simp [w16, ih]
theorem ext_length (m : List Nat) (k : Nat) : (ext m k).length = m.length + k := by induction k with
 | zero => rfl
 | succ k ih => simp [ext, ih]; omega
theorem words_length (l : List UInt8) : (words l).length = 80 := by simp [words, ext_length, w16_length]
theorem w16_lt (l : List UInt8) (k : Nat) : ∀ x ∈ w16 l k, x < 18446744073709551616 := by induction k with
  | zero => simp [w16]
  | succ k ih =>
    intro x hx
    simp only [w16, List.mem_append, List.mem_singleton] at hx
    rcases hx with hx | rfl
    · exact ih x hx
    · exact be8_lt l k
theorem ext_lt (m : List Nat) (hm : ∀ x ∈ m, x < 18446744073709551616) (k : Nat) : ∀ x ∈ ext m k, x < 18446744073709551616 := by induction k with
  | zero => exact hm
  | succ k ih =>
    intro x hx
    simp only [ext, List.mem_append, List.mem_singleton] at hx
    rcases hx with hx | rfl
    · exact ih x hx
    · unfold nextW; omega
theorem getD_lt {m : List Nat} (hm : ∀ x ∈ m, x < 18446744073709551616) (k : Nat) : m.getD k 0 < 18446744073709551616 := by
 rw [List.getD_eq_getElem?_getD]
 rcases h : m[k]? with _ | x
 ·simp
 ·simpa [h] using hm x (List.mem_of_getElem? h)
theorem rnd_ok {s : S8} (h : s.ok) (k w : Nat) : (rnd s k w).ok := by
 obtain ⟨h1, h2, h3, h4, h5, h6, h7, h8⟩ := h
 exact ⟨Nat.mod_lt _ (by omega), h1, h2, h3, Nat.mod_lt _ (by omega), h5, h6, h7⟩
theorem rounds_ok (w : List Nat) {s : S8} (h : s.ok) (t : Nat) : (rounds w s t).ok := by induction t with
 | zero => exact h
 | succ t ih => exact rnd_ok ih _ _
theorem add_ok (s x : S8) : (s.add x).ok := ⟨Nat.mod_lt _ (by omega), Nat.mod_lt _ (by omega), Nat.mod_lt _ (by omega), Nat.mod_lt _ (by omega), Nat.mod_lt _ (by omega), Nat.mod_lt _ (by omega), Nat.mod_lt _ (by omega), Nat.mod_lt _ (by omega)⟩
theorem step_ok (s : S8) (b : List UInt8) : (step s b).ok := add_ok _ _
theorem IV_ok : IV.ok := by unfold S8.ok IV; decide
theorem pad_length (n : Nat) : (pad n).length = 17 + zeros n := by simp [pad, be64]; omega
theorem padded_mod (n : Nat) : (n + (pad n).length) % 128 = 0 := by rw [pad_length]; unfold zeros; omega
theorem bytes_length (s : S8) : s.bytes.length = 64 := rfl
theorem sum_length (b : List UInt8) : (sum b).length = 64 := rfl
def mixl (l m : List Nat) (k : Nat) : List Nat := (List.zipWith (fun x y => (x + y) % 18446744073709551616) l m).take k ++ l.drop k
theorem mixl_zero (l m : List Nat) : mixl l m 0 = l := by simp [mixl]
theorem mixl_length {l m : List Nat} (h : l.length = m.length) {k : Nat} (hk : k ≤ l.length) : (mixl l m k).length = l.length := by
 simp [mixl, ← h]; omega
theorem mixl_get {l m : List Nat} (h : l.length = m.length) {k : Nat} (hk : k < l.length) : (mixl l m k).getD k 0 = l.getD k 0 := by
 have e : ((List.zipWith (fun x y => (x + y) % 18446744073709551616) l m).take k).length = k := by simp [← h]; omega
 simp only [mixl, List.getD_eq_getElem?_getD]
 rw [List.getElem?_append_right (by omega), e, Nat.sub_self, List.getElem?_drop, Nat.add_zero]
theorem mixl_set {l m : List Nat} (h : l.length = m.length) {k : Nat} (hk : k < l.length) : (mixl l m k).set k ((l.getD k 0 + m.getD k 0) % 18446744073709551616) = mixl l m (k + 1) := by
 have e : ((List.zipWith (fun x y => (x + y) % 18446744073709551616) l m).take k).length = k := by simp [← h]; omega
 have hz : k < (List.zipWith (fun x y => (x + y) % 18446744073709551616) l m).length := by simp [← h]; omega
 simp only [mixl]
 rw [List.set_append_right _ _ (by omega), e, Nat.sub_self, List.take_succ_eq_append_getElem hz, List.drop_eq_getElem_cons hk]
 have h1 : l.getD k 0 = l[k] := by simp [hk]
 have h2 : m.getD k 0 = m[k]'(by omega) := by simp [show k < m.length by omega]
 rw [h1, h2]
 simp
 rw [List.drop_eq_getElem_cons hk]
 rfl
theorem add_list (s x : S8) : (s.add x).list = mixl s.list x.list 8 := rfl
end Lng
end
section
namespace Lng
end Lng
end
section
namespace Lng
def wt (l : List UInt8) (t : Nat) : List Nat := ext (w16 l (min t 16)) (t - 16)
theorem wt_high {l : List UInt8} {t : Nat} (h : 16 ≤ t) : wt l (t + 1) = wt l t ++ [nextW (wt l t) (t - 16)] := by
 unfold wt
 rw [show min (t + 1) 16 = 16 from by omega, show min t 16 = 16 from by omega, show t + 1 - 16 = (t - 16) + 1 from by omega]
 rfl
theorem wt_words (l : List UInt8) : wt l 80 = words l := rfl
theorem wt_length (l : List UInt8) (t : Nat) : (wt l t).length = t := by unfold wt; rw [ext_length, w16_length]; omega
theorem wt_lt (l : List UInt8) (t : Nat) : ∀ x ∈ wt l t, x < 18446744073709551616 := ext_lt _ (w16_lt l _) _
end Lng
end
end Go.Proofs.YtjllhimhiekchaaGreat

namespace Go.Proofs.YtjllhimhiekchaaGreat
section
namespace Wd
def val : List Nat → Nat
 | [] => 0
 | d :: ds => d + 18446744073709551616 * val ds
def ok (ds : List Nat) : Prop := ∀ d ∈ ds, d < 18446744073709551616
theorem ok_cons {d : Nat} {ds : List Nat} : ok (d :: ds) ↔ d < 18446744073709551616 ∧ ok ds := by
 constructor
 ·intro h; exact ⟨h d (by simp), fun x hx => h x (by simp [hx])⟩
 ·rintro ⟨h1, h2⟩ x hx
  rcases List.mem_cons.1 hx with rfl | hx
  ·exact h1
  ·exact h2 x hx
theorem ok_get {a : List Nat} (ha : ok a) (i : Nat) : a.getD i 0 < 18446744073709551616 := by
 rw [List.getD_eq_getElem?_getD]
 cases h : a[i]? with
 | none => simp
 | some d => exact ha d (List.mem_of_getElem? h)
theorem zeros_get (n i : Nat) : (List.replicate n 0).getD i 0 = 0 := by
 rw [List.getD_eq_getElem?_getD, List.getElem?_replicate]; split <;> rfl
theorem getD_set_ne (l : List Nat) (i j x : Nat) (h : i ≠ j) : (l.set i x).getD j 0 = l.getD j 0 := by
 rw [List.getD_eq_getElem?_getD, List.getD_eq_getElem?_getD, List.getElem?_set_ne h]
theorem val_append : ∀ (a b : List Nat), val (a ++ b) = val a + 18446744073709551616 ^ a.length * val b
  | [], b => by simp [val]
  | d :: a, b => by
    simp only [List.cons_append, val, val_append a b, List.length_cons, Nat.pow_succ]
    rw [Nat.mul_add, Nat.mul_comm (18446744073709551616 ^ a.length) 18446744073709551616, Nat.mul_assoc]
    omega
theorem val_take_succ (a : List Nat) (k : Nat) : val (a.take (k + 1)) = val (a.take k) + a.getD k 0 * 18446744073709551616 ^ k := by
 rw [List.getD_eq_getElem?_getD]
 by_cases h : k < a.length
 ·rw [List.take_succ_eq_append_getElem h, val_append]
  have hl : (a.take k).length = k := by simp; omega
  rw [hl]
  simp [val, h, Nat.mul_comm]
 ·rw [List.take_of_length_le (by omega), List.take_of_length_le (by omega), List.getElem?_eq_none (by omega)]
  simp
theorem val_set : ∀ (l : List Nat) (i x : Nat), i < l.length → val (l.set i x) + l.getD i 0 * 18446744073709551616 ^ i = val l + x * 18446744073709551616 ^ i
  | [], i, x, h => by cases h
  | d :: l, 0, x, _ => by simp [val]; omega
  | d :: l, i + 1, x, h => by
    have ih := val_set l i x (by simpa using h)
    simp only [List.set_cons_succ, val, List.getD_cons_succ, Nat.pow_succ]
    have e1 : l.getD i 0 * (18446744073709551616 ^ i * 18446744073709551616) = 18446744073709551616 * (l.getD i 0 * 18446744073709551616 ^ i) := by rw [← Nat.mul_assoc, Nat.mul_comm]
    have e2 : x * (18446744073709551616 ^ i * 18446744073709551616) = 18446744073709551616 * (x * 18446744073709551616 ^ i) := by rw [← Nat.mul_assoc, Nat.mul_comm]
    rw [e1, e2]
    omega
theorem ok_set {l : List Nat} (h : ok l) (i x : Nat) (hx : x < 18446744073709551616) : ok (l.set i x) := fun d hd => by
 rcases List.mem_or_eq_of_mem_set hd with h1 | h1
 ·exact h d h1
 ·omega
theorem val_zeros (n : Nat) : val (List.replicate n 0) = 0 := by
 induction n with
 | zero => rfl
 | succ n ih => rw [List.replicate_succ, val, ih]
theorem ok_zeros (n : Nat) : ok (List.replicate n 0) := fun d hd => by rw [List.eq_of_mem_replicate hd]; omega
theorem dm (D P : Nat) : D % 18446744073709551616 * P + D / 18446744073709551616 * (P * 18446744073709551616) = D * P := by
 rw [Nat.mul_comm P 18446744073709551616, ← Nat.mul_assoc, ← Nat.add_mul]
 congr 1
 omega
theorem mul_step {l l0 o x y cr D P V y' : Nat} (hD : D = o + x * y + cr) (h : l + cr * P = l0 + x * V) (h' : y' + o * P = l + D % 18446744073709551616 * P) : y' + D / 18446744073709551616 * (P * 18446744073709551616) = l0 + x * (V + y * P) := by
 have e := dm D P
 have e2 : D * P = o * P + x * y * P + cr * P := by rw [hD, Nat.add_mul, Nat.add_mul]
 rw [Nat.mul_add, ← Nat.mul_assoc x y P]
 omega
end Wd
end
section
namespace Lng
end Lng
end
end Go.Proofs.YtjllhimhiekchaaGreat
