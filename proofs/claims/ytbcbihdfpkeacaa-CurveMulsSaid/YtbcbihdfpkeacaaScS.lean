/- Scalars as four words: sums, differences, what is left of the order: plain laws. No program in sight. -/
import Derived.Test.YtbcbihdfpkeacaaFieldE
import Derived.Test.YtbcbihdfpkeacaaEdB
namespace Go.Proofs.Ytbcbihdfpkeacaa
namespace Sc
def W : Nat := 18446744073709551616
theorem W_pos : 0 < W := by unfold W; omega
theorem Wp (i : Nat) : 0 < W ^ i := Nat.pow_pos W_pos
/-- The k lowest words. -/
def wl (k n : Nat) : List Nat := Fp.fn k fun j => n / W ^ j % W
def L : Nat := Ed.L
theorem L_eq : L = 7237005577332262213973186563042994240857116359379907606001950938285454250989 := rfl
theorem low_succ (a i : Nat) : a % W ^ (i + 1) = a % W ^ i + W ^ i * (a / W ^ i % W) := by rw [Nat.pow_succ, Nat.mod_mul]
theorem add_word (a b i : Nat) : (a / W ^ i % W + b / W ^ i % W + (a % W ^ i + b % W ^ i) / W ^ i) % W = (a + b) / W ^ i % W ∧ (a / W ^ i % W + b / W ^ i % W + (a % W ^ i + b % W ^ i) / W ^ i) / W = (a % W ^ (i + 1) + b % W ^ (i + 1)) / W ^ (i + 1) := by
  have hp := Wp i
  have e1 := low_succ a i
  have e2 := low_succ b i
  have hS : (a % W ^ (i + 1) + b % W ^ (i + 1)) / W ^ i = a / W ^ i % W + b / W ^ i % W + (a % W ^ i + b % W ^ i) / W ^ i := by
    rw [e1, e2, show a % W ^ i + W ^ i * (a / W ^ i % W) + (b % W ^ i + W ^ i * (b / W ^ i % W)) = (a % W ^ i + b % W ^ i) + W ^ i * (a / W ^ i % W + b / W ^ i % W) from by rw [Nat.mul_add]; omega, Nat.add_mul_div_left _ _ hp]
    omega
  constructor
  · rw [← hS]
    have h : a + b = (a % W ^ (i + 1) + b % W ^ (i + 1)) + W ^ (i + 1) * (a / W ^ (i + 1) + b / W ^ (i + 1)) := by
      have h1 := Nat.mod_add_div a (W ^ (i + 1)); have h2 := Nat.mod_add_div b (W ^ (i + 1))
      rw [Nat.mul_add]; omega
    rw [h, Nat.pow_succ, Nat.mul_assoc, Nat.add_mul_div_left _ _ hp, Nat.add_mul_mod_self_left]
  · rw [← hS, Nat.div_div_eq_div_mul, Nat.pow_succ]
/-- The borrowed bit. -/
def bor (a b i : Nat) : Nat := if a % W ^ i < b % W ^ i then 1 else 0
theorem bor_le (a b i : Nat) : bor a b i ≤ 1 := by unfold bor; split <;> omega
theorem lex_lt {P A B la lb : Nat} (ha : la < P) (hb : lb < P) : la + P * A < lb + P * B ↔ A < B ∨ (A = B ∧ la < lb) := by
  rcases Nat.lt_trichotomy A B with h | h | h
  · have := Nat.mul_le_mul_left P (Nat.succ_le_of_lt h)
    rw [Nat.mul_succ] at this
    constructor
    · intro _; exact .inl h
    · intro _; omega
  · subst h
    constructor
    · intro h2; exact .inr ⟨rfl, by omega⟩
    · rintro (h2 | ⟨_, h2⟩)
      · omega
      · omega
  · have := Nat.mul_le_mul_left P (Nat.succ_le_of_lt h)
    rw [Nat.mul_succ] at this
    constructor
    · intro h2; omega
    · rintro (h2 | ⟨h2, _⟩) <;> omega
theorem bor_succ (a b i : Nat) : bor a b (i + 1) = if a / W ^ i % W < b / W ^ i % W + bor a b i then 1 else 0 := by
  have hp := Wp i
  have key := lex_lt (P := W ^ i) (A := a / W ^ i % W) (B := b / W ^ i % W) (Nat.mod_lt a hp) (Nat.mod_lt b hp)
  rw [← low_succ, ← low_succ] at key
  unfold bor
  by_cases h0 : a % W ^ i < b % W ^ i
  · rw [if_pos h0]
    by_cases h1 : a % W ^ (i + 1) < b % W ^ (i + 1)
    · rw [if_pos h1, if_pos]
      rcases key.1 h1 with h | ⟨h, _⟩ <;> omega
    · rw [if_neg h1, if_neg]
      intro h
      apply h1
      rw [key]
      rcases Nat.lt_or_ge (a / W ^ i % W) (b / W ^ i % W) with h2 | h2
      · exact .inl h2
      · exact .inr ⟨by omega, h0⟩
  · rw [if_neg h0]
    by_cases h1 : a % W ^ (i + 1) < b % W ^ (i + 1)
    · rw [if_pos h1, if_pos]
      rcases key.1 h1 with h | ⟨_, h⟩
      · omega
      · exact absurd h h0
    · rw [if_neg h1, if_neg]
      intro h
      apply h1
      rw [key]
      left; omega
theorem sub_mod (qa qb M c : Nat) (hc : c ≤ 1) (h : qb + c ≤ qa + 18446744073709551616 * M) : (qa + 18446744073709551616 * M - qb - c) % 18446744073709551616 = (qa % 18446744073709551616 + 2 * 18446744073709551616 - qb % 18446744073709551616 - c) % 18446744073709551616 := by
  omega
theorem sub_div {P M a b ra rb qa qb : Nat} (hp : 0 < P) (ha : a = P * qa + ra) (hb : b = P * qb + rb) (la : ra < P) (lb : rb < P) (h : b ≤ P * M) : (a + P * M - b) / P = qa + M - qb - (if ra < rb then 1 else 0) ∧ qb + (if ra < rb then 1 else 0) ≤ M := by
  have hq : qb ≤ M := by
    apply Classical.byContradiction; intro hc
    have := Nat.mul_le_mul_left P (show M + 1 ≤ qb by omega)
    rw [Nat.mul_succ] at this; omega
  split
  · rename_i hlt
    have hq2 : qb + 1 ≤ M := by
      apply Classical.byContradiction; intro hc
      have : qb = M := by omega
      subst this; omega
    refine ⟨?_, hq2⟩
    obtain ⟨k, rfl⟩ : ∃ k, M = qb + 1 + k := ⟨M - (qb + 1), by omega⟩
    have e : a + P * (qb + 1 + k) - b = (P + ra - rb) + P * (qa + k) := by
      rw [ha, hb, Nat.mul_add P (qb + 1), Nat.mul_add P qb, Nat.mul_add P qa]; omega
    rw [e, Nat.add_mul_div_left _ _ hp, Nat.div_eq_of_lt (by omega)]; omega
  · rename_i hlt
    refine ⟨?_, hq⟩
    obtain ⟨k, rfl⟩ : ∃ k, M = qb + k := ⟨M - qb, by omega⟩
    have e : a + P * (qb + k) - b = (ra - rb) + P * (qa + k) := by
      rw [ha, hb, Nat.mul_add P qb, Nat.mul_add P qa]; omega
    rw [e, Nat.add_mul_div_left _ _ hp, Nat.div_eq_of_lt (by omega)]; omega
theorem sub_word {a b i : Nat} (hb : b ≤ W ^ 4) (hi : i < 4) : (a + W ^ 4 - b) / W ^ i % W = (a / W ^ i % W + 2 * W - b / W ^ i % W - bor a b i) % W := by
  have hp := Wp i
  have e4 : W ^ 4 = W ^ i * (W * W ^ (3 - i)) := by rw [← Nat.mul_assoc, ← Nat.pow_succ, ← Nat.pow_add]; congr 1; omega
  have h := sub_div (M := W * W ^ (3 - i)) hp (Nat.div_add_mod a (W ^ i)).symm (Nat.div_add_mod b (W ^ i)).symm (Nat.mod_lt _ hp) (Nat.mod_lt _ hp) (by rw [← e4]; exact hb)
  rw [e4, h.1]
  have hc := bor_le a b i
  have h2 := h.2
  unfold bor at *
  exact sub_mod _ _ _ _ hc (Nat.le_trans h2 (Nat.le_add_left _ _))
theorem bor_all {a b : Nat} (ha : a < W ^ 4) (hb : b < W ^ 4) : bor a b 4 = if a < b then 1 else 0 := by
  unfold bor; rw [Nat.mod_eq_of_lt ha, Nat.mod_eq_of_lt hb]
theorem L_lt : L < W ^ 4 := by decide +kernel
theorem L2_lt : 2 * L < W ^ 4 := by decide +kernel
theorem wl_L : wl 4 L = [0x5812631a5cf5d3ed, 0x14def9dea2f79cd6, 0, 0x1000000000000000] := by decide +kernel
theorem wl_length (k n : Nat) : (wl k n).length = k := Fp.fn_length ..
theorem wl_get {k j : Nat} (n : Nat) (h : j < k) : (wl k n).getD j 0 = n / W ^ j % W := Fp.fn_get _ h
theorem wl_zero (k : Nat) : wl k 0 = List.replicate k 0 := by
  unfold wl Fp.fn
  rw [List.eq_replicate_iff]
  refine ⟨by simp, fun b hb => ?_⟩
  simp at hb
  obtain ⟨_, _, h⟩ := hb
  omega
theorem wl_inj {a b : Nat} (ha : a < W ^ 4) (hb : b < W ^ 4) (h : wl 4 a = wl 4 b) : a = b := by
  have g : ∀ j, j < 4 → a / W ^ j % W = b / W ^ j % W := fun j hj => by rw [← wl_get a hj, ← wl_get b hj, h]
  have g0 := g 0 (by omega); have g1 := g 1 (by omega); have g2 := g 2 (by omega); have g3 := g 3 (by omega)
  simp only [W, Nat.reducePow] at *
  omega
end Sc
end Go.Proofs.Ytbcbihdfpkeacaa
