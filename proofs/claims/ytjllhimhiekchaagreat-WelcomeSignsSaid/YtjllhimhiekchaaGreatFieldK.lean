/- The field of 2^255 - 19 as a ring whose laws 'grind' knows: inverses, squares, roots. No program in sight. -/
import Derived.Test.YtjllhimhiekchaaGreatFieldS
/- Plain number theory: Fermat's little theorem and a test of primes (Pocklington's). No program in sight, no condition of mine. -/
namespace Go.Proofs.YtjllhimhiekchaaGreat
namespace Nt
def Prm (r : Nat) : Prop := 2 ≤ r ∧ ∀ d, d ∣ r → d = 1 ∨ d = r
def ch : Nat → Nat → Nat
 | _, 0 => 1
 | 0, _ + 1 => 0
 | n + 1, k + 1 => ch n k + ch n (k + 1)
theorem ch_zero (n : Nat) : ch n 0 = 1 := by cases n <;> rfl
theorem ch_over : ∀ (n k : Nat), n < k → ch n k = 0
 | 0, 0, h => absurd h (by omega)
 | 0, k + 1, _ => rfl
 | n + 1, 0, h => absurd h (by omega)
 | n + 1, k + 1, h => by rw [ch, ch_over n k (by omega), ch_over n (k + 1) (by omega)]
theorem ch_self : ∀ n : Nat, ch n n = 1
 | 0 => rfl
 | n + 1 => by rw [ch, ch_self n, ch_over n (n + 1) (by omega)]
theorem ch_mul : ∀ (n k : Nat), (k + 1) * ch (n + 1) (k + 1) = (n + 1) * ch n k
  | 0, 0 => rfl
  | 0, k + 1 => by rw [ch_over (0 + 1) (k + 1 + 1) (by omega), ch_over 0 (k + 1) (by omega), Nat.mul_zero, Nat.mul_zero]
  | n + 1, 0 => by
    have h := ch_mul n 0
    have e : ch (n + 1 + 1) (0 + 1) = ch (n + 1) 0 + ch (n + 1) (0 + 1) := rfl
    rw [ch_zero] at h e
    rw [e, ch_zero]
    omega
  | n + 1, k + 1 => by
    have h1 := ch_mul n k
    have h2 := ch_mul n (k + 1)
    rw [show ch (n + 1 + 1) (k + 1 + 1) = ch (n + 1) (k + 1) + ch (n + 1) (k + 1 + 1) from rfl]
    have e : ch (n + 1) (k + 1) = ch n k + ch n (k + 1) := rfl
    have a1 : (k + 1 + 1) * (ch (n + 1) (k + 1) + ch (n + 1) (k + 1 + 1)) = (k + 1) * ch (n + 1) (k + 1) + ch (n + 1) (k + 1) + (k + 1 + 1) * ch (n + 1) (k + 1 + 1) := by
      rw [Nat.mul_add, Nat.add_mul (k + 1) 1, Nat.one_mul]
    rw [a1, h1, h2, Nat.add_mul (n + 1) 1 (ch (n + 1) (k + 1)), Nat.one_mul]
    have a2 : (n + 1) * ch (n + 1) (k + 1) = (n + 1) * ch n k + (n + 1) * ch n (k + 1) := by rw [e, Nat.mul_add]
    omega
def sumTo (f : Nat → Nat) : Nat → Nat
 | 0 => 0
 | n + 1 => sumTo f n + f n
theorem sumTo_congr {f g : Nat → Nat} : ∀ (n : Nat), (∀ k, k < n → f k = g k) → sumTo f n = sumTo g n
 | 0, _ => rfl
 | n + 1, h => by rw [sumTo, sumTo, sumTo_congr n (fun k hk => h k (by omega)), h n (by omega)]
theorem sumTo_add (f g : Nat → Nat) : ∀ n, sumTo (fun k => f k + g k) n = sumTo f n + sumTo g n
 | 0 => rfl
 | n + 1 => by rw [sumTo, sumTo, sumTo, sumTo_add f g n]; omega
theorem sumTo_mul (f : Nat → Nat) (c : Nat) : ∀ n, sumTo (fun k => f k * c) n = sumTo f n * c
 | 0 => by rw [sumTo, sumTo, Nat.zero_mul]
 | n + 1 => by rw [sumTo, sumTo, sumTo_mul f c n, Nat.add_mul]
theorem sumTo_first (f : Nat → Nat) : ∀ n, sumTo f (n + 1) = f 0 + sumTo (fun k => f (k + 1)) n
 | 0 => by rw [sumTo, sumTo, sumTo]; omega
 | n + 1 => by rw [sumTo, sumTo_first f n, sumTo]; omega
theorem sumTo_dvd {f : Nat → Nat} {d : Nat} : ∀ n, (∀ k, k < n → d ∣ f k) → d ∣ sumTo f n
 | 0, _ => Nat.dvd_zero _
 | n + 1, h => Nat.dvd_add (sumTo_dvd n fun k hk => h k (by omega)) (h n (by omega))
theorem binom (a : Nat) : ∀ n, (a + 1) ^ n = sumTo (fun k => ch n k * a ^ k) (n + 1)
  | 0 => by simp [sumTo, ch]
  | n + 1 => by
    rw [Nat.pow_succ, binom a n, sumTo_first (fun k => ch (n + 1) k * a ^ k)]
    have e1 : sumTo (fun k => ch (n + 1) (k + 1) * a ^ (k + 1)) (n + 1) = sumTo (fun k => ch n k * a ^ k) (n + 1) * a + sumTo (fun k => ch n (k + 1) * a ^ (k + 1)) (n + 1) := by
      rw [← sumTo_mul, ← sumTo_add]
      refine sumTo_congr _ fun k _ => ?_
      rw [ch, Nat.add_mul, Nat.pow_succ, Nat.mul_assoc]
    have e2 : sumTo (fun k => ch n (k + 1) * a ^ (k + 1)) (n + 1) = sumTo (fun k => ch n (k + 1) * a ^ (k + 1)) n := by
      rw [sumTo, ch_over n (n + 1) (by omega), Nat.zero_mul, Nat.add_zero]
    have e3 := sumTo_first (fun k => ch n k * a ^ k) n
    simp only [ch_zero, Nat.pow_zero, Nat.mul_one] at e3 ⊢
    rw [e1, e2, Nat.mul_add, Nat.mul_one]
    omega
theorem Prm.cop {r k : Nat} (h : Prm r) (hk : ¬ r ∣ k) : Nat.Coprime r k := by
 rcases h.2 _ (Nat.gcd_dvd_left r k) with e | e
 ·exact e
 ·exact absurd (e ▸ Nat.gcd_dvd_right r k) hk
theorem Prm.dvd_mul {r a b : Nat} (h : Prm r) (hd : r ∣ a * b) : r ∣ a ∨ r ∣ b := by
 by_cases ha : r ∣ a
 ·exact .inl ha
 ·exact .inr ((h.cop ha).dvd_of_dvd_mul_left hd)
theorem Prm.dvd_ch {r k : Nat} (h : Prm r) (h0 : 0 < k) (hk : k < r) : r ∣ ch r k := by
 obtain ⟨k, rfl⟩ : ∃ j, k = j + 1 := ⟨k - 1, by omega⟩
 obtain ⟨n, rfl⟩ : ∃ j, r = j + 1 := ⟨r - 1, by omega⟩
 have hm := ch_mul n k
 rcases h.dvd_mul (a := k + 1) (b := ch (n + 1) (k + 1)) (hm ▸ Nat.dvd_mul_right _ _) with hd | hd
 ·exact absurd (Nat.le_of_dvd (by omega) hd) (by omega)
 ·exact hd
theorem fermat_step {r : Nat} (h : Prm r) (a : Nat) : ∃ c, (a + 1) ^ r = a ^ r + 1 + r * c := by
 obtain ⟨n, rfl⟩ : ∃ j, r = j + 1 := ⟨r - 1, by have := h.1; omega⟩
 rw [binom, sumTo, sumTo_first, ch_self, ch_zero, Nat.pow_zero, Nat.mul_one, Nat.one_mul]
 obtain ⟨c, hc⟩ := sumTo_dvd (d := n + 1) (f := fun k => ch (n + 1) (k + 1) * a ^ (k + 1)) n (fun k hk => Nat.dvd_trans (h.dvd_ch (by omega) (by omega)) (Nat.dvd_mul_right _ _))
 exact ⟨c, by rw [hc]; omega⟩
theorem fermat {r : Nat} (h : Prm r) (a : Nat) : a ^ r % r = a % r := by
  induction a with
  | zero => rw [Nat.zero_pow (by have := h.1; omega)]
  | succ a ih =>
    obtain ⟨c, hc⟩ := fermat_step h a
    rw [hc, Nat.add_mul_mod_self_left, Nat.add_mod, ih, ← Nat.add_mod]
theorem mod_iff {r a b : Nat} (h : b ≤ a) : b % r = a % r ↔ r ∣ a - b := by
 rw [Nat.dvd_iff_mod_eq_zero]
 obtain ⟨c, rfl⟩ := Nat.exists_eq_add_of_le h
 rw [Nat.add_sub_cancel_left]
 constructor
 ·intro he
  rcases Nat.eq_zero_or_pos r with h0 | h0
  ·subst h0; simp only [Nat.mod_zero] at *; omega
  ·have h1 := Nat.add_mod b c r
   have hb := Nat.mod_lt b h0
   have hc := Nat.mod_lt c h0
   rw [← he] at h1
   rw [Nat.mod_def (b % r + c % r)] at h1
   by_cases hlt : b % r + c % r < r
   ·rw [Nat.div_eq_of_lt hlt] at h1; omega
   ·rw [show (b % r + c % r) / r = 1 from by rw [Nat.div_eq_iff h0]; omega] at h1; omega
 ·intro hc
  rw [Nat.add_mod, hc, Nat.add_zero, Nat.mod_mod]
theorem Prm.cancel {r a b c : Nat} (h : Prm r) (ha : ¬ r ∣ a) (he : a * b % r = a * c % r) : b % r = c % r := by
 have main : ∀ b c : Nat, c ≤ b → a * b % r = a * c % r → b % r = c % r := by
  intro b c hle he
  have hd : r ∣ a * b - a * c := (mod_iff (Nat.mul_le_mul_left a hle)).1 he.symm
  rw [← Nat.mul_sub] at hd
  rcases h.dvd_mul hd with hd | hd
  ·exact absurd hd ha
  ·exact ((mod_iff hle).2 hd).symm
 rcases Nat.le_total c b with hle | hle
 ·exact main b c hle he
 ·exact (main c b hle he.symm).symm
theorem fermat1 {r a : Nat} (h : Prm r) (ha : ¬ r ∣ a) : a ^ (r - 1) % r = 1 := by
 have h2 := h.1
 have hf := fermat h a
 obtain ⟨n, rfl⟩ : ∃ j, r = j + 1 := ⟨r - 1, by omega⟩
 have := h.cancel (a := a) (b := a ^ n) (c := 1) ha (by rw [Nat.mul_comm, ← Nat.pow_succ, hf, Nat.mul_one])
 rw [Nat.add_sub_cancel, this, Nat.mod_eq_of_lt (by omega)]
theorem one_mul_mod {r x y : Nat} (hx : x % r = 1 % r) : x * y % r = y % r := by
 rw [Nat.mul_mod, hx, ← Nat.mul_mod, Nat.one_mul]
theorem one_pow_mod {r x : Nat} (hx : x % r = 1 % r) (k : Nat) : x ^ k % r = 1 % r := by
 rw [Nat.pow_mod, hx, ← Nat.pow_mod, Nat.one_pow]
theorem one_gcd {r a : Nat} : ∀ (x y : Nat), a ^ x % r = 1 % r → a ^ y % r = 1 % r → a ^ Nat.gcd x y % r = 1 % r := by
  intro x y
  induction x, y using Nat.gcd.induction with
  | H0 y => intro _ hy; rw [Nat.gcd_zero_left]; exact hy
  | H1 x y hx ih =>
    intro h1 h2
    rw [Nat.gcd_rec]
    refine ih ?_ h1
    have e : a ^ y = (a ^ x) ^ (y / x) * a ^ (y % x) := by rw [← Nat.pow_mul, ← Nat.pow_add, Nat.div_add_mod]
    rw [e, one_mul_mod (one_pow_mod h1 _)] at h2
    exact h2
theorem pock {n q m g : Nat} (hn : 1 < n) (hq : Prm q) (a : Nat) (hm : n - 1 = q * m) (h1 : a ^ (n - 1) % n = 1) (h2 : a ^ m % n = g + 1) (h3 : Nat.gcd g n = 1) {r : Nat} (hr : Prm r) (hd : r ∣ n) : q ∣ r - 1 := by
 have hr2 := hr.1
 have h1' : a ^ (n - 1) % r = 1 % r := by
  have := congrArg (· % r) h1
  simpa [Nat.mod_mod_of_dvd _ hd] using this
 have hra : ¬ r ∣ a := fun hc => by
  obtain ⟨j, hj⟩ : ∃ j, n - 1 = j + 1 := ⟨n - 2, by omega⟩
  have : r ∣ a ^ (n - 1) := by rw [hj, Nat.pow_succ]; exact Nat.dvd_trans hc (Nat.dvd_mul_left _ _)
  rw [Nat.mod_eq_zero_of_dvd this, Nat.mod_eq_of_lt (by omega)] at h1'
  cases h1'
 apply Classical.byContradiction
 intro hcon
 have hf : a ^ (r - 1) % r = 1 % r := by rw [fermat1 hr hra, Nat.mod_eq_of_lt (by omega)]
 have hg := one_gcd (n - 1) (r - 1) h1' hf
 have hgm : Nat.gcd (n - 1) (r - 1) ∣ m := by
  have c1 : Nat.Coprime q (Nat.gcd (n - 1) (r - 1)) := hq.cop fun hc => hcon (Nat.dvd_trans hc (Nat.gcd_dvd_right _ _))
  refine c1.symm.dvd_of_dvd_mul_left (n := m) (m := q) ?_
  rw [← hm]; exact Nat.gcd_dvd_left _ _
 have hm1 : a ^ m % r = 1 % r := by
  obtain ⟨k, hk⟩ := hgm
  rw [hk, Nat.pow_mul]
  exact one_pow_mod hg k
 have : (g + 1) % r = 1 % r := by
  have e := congrArg (· % r) h2
  simp only [Nat.mod_mod_of_dvd _ hd] at e
  rw [← e, hm1]
 have hdg : r ∣ g := by
  have := (mod_iff (show 1 ≤ g + 1 by omega)).1 this.symm
  simpa using this
 have := Nat.dvd_gcd hdg hd
 rw [h3] at this
 have := Nat.le_of_dvd (by omega) this
 omega
theorem least_factor {n : Nat} (hn : 2 ≤ n) : ∃ r, Prm r ∧ r ∣ n ∧ (r = n ∨ r * r ≤ n) := by
  have key : ∀ k d : Nat, d + k = n → 2 ≤ d → (∀ e, 2 ≤ e → e < d → ¬ e ∣ n) → ∃ r, 2 ≤ r ∧ r ∣ n ∧ ∀ e, 2 ≤ e → e < r → ¬ e ∣ n := by
    intro k
    induction k with
    | zero => intro d hd h2 hmin; exact ⟨d, h2, by rw [show d = n by omega]; exact Nat.dvd_refl n, hmin⟩
    | succ k ih =>
      intro d hd h2 hmin
      by_cases hdn : d ∣ n
      · exact ⟨d, h2, hdn, hmin⟩
      · refine ih (d + 1) (by omega) (by omega) fun e h2 he => ?_
        rcases Nat.lt_succ_iff_lt_or_eq.1 he with h | rfl
        · exact hmin e h2 h
        · exact hdn
  obtain ⟨r, h2, hrn, hmin⟩ := key (n - 2) 2 (by omega) (by omega) (fun e h1 h2 => by omega)
  refine ⟨r, ⟨h2, fun d hd => ?_⟩, hrn, ?_⟩
  · have hd0 : d ≠ 0 := fun h => by subst h; have := Nat.eq_zero_of_zero_dvd hd; omega
    have hle := Nat.le_of_dvd (by omega) hd
    by_cases h1 : d = 1
    · exact .inl h1
    · right
      by_cases hlt : d < r
      · exact absurd (Nat.dvd_trans hd hrn) (hmin d (by omega) hlt)
      · omega
  · obtain ⟨k, hk⟩ := hrn
    by_cases hk1 : k = 1
    · left; rw [hk, hk1, Nat.mul_one]
    · right
      have hk0 : k ≠ 0 := fun h => by subst h; omega
      have : ¬ k < r := fun hlt => hmin k (by omega) hlt ⟨r, by rw [hk, Nat.mul_comm]⟩
      rw [hk]
      exact Nat.mul_le_mul_left r (by omega)
theorem prm_of {n F : Nat} (hn : 2 ≤ n) (hF : n < F * F) (h : ∀ r, Prm r → r ∣ n → F ∣ r - 1) : Prm n := by
 obtain ⟨r, hr, hd, hc⟩ := least_factor hn
 rcases hc with rfl | hc
 ·exact hr
 ·have h2 := hr.1
  have := Nat.le_of_dvd (by omega) (h r hr hd)
  have : F * F ≤ r * r := Nat.mul_le_mul (by omega) (by omega)
  omega
def noFac (n : Nat) : Nat → Nat → Bool
 | 0, _ => true
 | k + 1, d => n % d != 0 && noFac n k (d + 1)
theorem noFac_spec {n : Nat} : ∀ (k d : Nat), noFac n k d = true → ∀ e, d ≤ e → e < d + k → ¬ e ∣ n
  | 0, d, _, e, h1, h2 => by omega
  | k + 1, d, h, e, h1, h2 => by
    simp only [noFac, Bool.and_eq_true, bne_iff_ne, ne_eq] at h
    by_cases he : e = d
    · subst he; exact fun hd => h.1 (Nat.mod_eq_zero_of_dvd hd)
    · exact noFac_spec k (d + 1) h.2 e (by omega) (by omega)
theorem prm_small {n k : Nat} (hn : 2 ≤ n) (hk : n < (k + 2) * (k + 2)) (h : noFac n k 2 = true) : Prm n := by
 obtain ⟨r, hr, hd, hc⟩ := least_factor hn
 rcases hc with rfl | hc
 ·exact hr
 ·have hlt : r < k + 2 := Classical.byContradiction fun hge => by
   have : (k + 2) * (k + 2) ≤ r * r := Nat.mul_le_mul (by omega) (by omega)
   omega
  exact absurd hd (noFac_spec k 2 h r hr.1 (by omega))
def pw (n : Nat) : Nat → Nat → Nat → Nat
 | 0, _, _ => 1 % n
 | f + 1, a, e => if e = 0 then 1 % n else if e % 2 = 0 then pw n f (a * a % n) (e / 2) else a * pw n f (a * a % n) (e / 2) % n
theorem pw_spec (n : Nat) : ∀ (f a e : Nat), e < 2 ^ f → pw n f a e = a ^ e % n
  | 0, a, e, h => by
    obtain rfl : e = 0 := by rw [Nat.pow_zero] at h; omega
    rfl
  | f + 1, a, e, h => by
    rw [pw]
    by_cases h0 : e = 0
    · rw [if_pos h0, h0, Nat.pow_zero]
    · rw [if_neg h0, pw_spec n f (a * a % n) (e / 2) (by rw [Nat.pow_succ] at h; omega), ← Nat.pow_mod, ← Nat.pow_two, ← Nat.pow_mul]
      by_cases h2 : e % 2 = 0
      · rw [if_pos h2, show 2 * (e / 2) = e by omega]
      · rw [if_neg h2, Nat.mul_mod, Nat.mod_mod, ← Nat.mul_mod, Nat.mul_comm, ← Nat.pow_succ, show (2 * (e / 2)).succ = e by omega]
theorem pock2 {n q m : Nat} (hq : Prm q) (f a : Nat) (h : (decide (1 < n) && decide (n - 1 = q * m) && decide (n < 2 ^ f) && decide (pw n f a (n - 1) = 1) && decide (0 < pw n f a m) && decide (Nat.gcd (pw n f a m - 1) n = 1)) = true) {r : Nat} (hr : Prm r) (hd : r ∣ n) : q ∣ r - 1 := by
 simp only [Bool.and_eq_true, decide_eq_true_eq] at h
 obtain ⟨⟨⟨⟨⟨h0, hm⟩, hf⟩, h1⟩, hp⟩, h2⟩ := h
 have hmn : m ≤ n - 1 := by rw [hm]; exact Nat.le_mul_of_pos_left m (by have := hq.1; omega)
 rw [pw_spec n f a (n - 1) (by omega)] at h1
 rw [pw_spec n f a m (by omega)] at hp h2
 exact pock (g := a ^ m % n - 1) h0 hq a hm h1 (by omega) h2 hr hd
theorem cop_dvd {a b c : Nat} (h : Nat.gcd a b = 1) (ha : a ∣ c) (hb : b ∣ c) : a * b ∣ c := Nat.Coprime.mul_dvd_of_dvd_of_dvd h ha hb
theorem prm_430751 : Prm 430751 := prm_small (k := 660) (by omega) (by omega) (by decide +kernel)
theorem prm_4153 : Prm 4153 := prm_small (k := 66) (by omega) (by omega) (by decide +kernel)
theorem prm_75707 : Prm 75707 := prm_small (k := 280) (by omega) (by omega) (by decide +kernel)
theorem prm_127 : Prm 127 := prm_small (k := 12) (by omega) (by omega) (by decide +kernel)
theorem prm_8574133 : Prm 8574133 := prm_small (k := 2930) (by omega) (by omega) (by decide +kernel)
theorem prm_p1 : Prm 31757755568855353 :=
 prm_of (F := 430751 * 4153) (by omega) (by omega) fun _ hr hd => cop_dvd (by decide +kernel) (pock2 (m := 73726481352) prm_430751 60 2 (by decide +kernel) hr hd) (pock2 (m := 7646943310584) prm_4153 60 2 (by decide +kernel) hr hd)
theorem prm_p2 : Prm 1919519569386763 :=
 prm_of (F := 8574133 * 127) (by omega) (by omega) fun _ hr hd => cop_dvd (by decide +kernel) (pock2 (m := 223873314) prm_8574133 60 2 (by decide +kernel) hr hd) (pock2 (m := 15114327318006) prm_127 60 2 (by decide +kernel) hr hd)
theorem prm_p3 : Prm 75445702479781427272750846543864801 :=
 prm_of (F := 1919519569386763 * 75707) (by omega) (by omega) fun _ hr hd => cop_dvd (by decide +kernel) (pock2 (m := 39304471641247389600) prm_p2 120 2 (by decide +kernel) hr hd) (pock2 (m := 996548568557483816196003626400) prm_75707 120 2 (by decide +kernel) hr hd)
theorem prm_p4 : Prm 74058212732561358302231226437062788676166966415465897661863160754340907 :=
 prm_of (F := 75445702479781427272750846543864801 * 31757755568855353) (by omega) (by omega) fun _ hr hd => cop_dvd (by decide +kernel) (pock2 (m := 981609426360740691344999861639072106) prm_p3 240 2 (by decide +kernel) hr hd) (pock2 (m := 2331972502653487852620185443007392165117953542933313402) prm_p1 240 2 (by decide +kernel) hr hd)
theorem prm_p : Prm 57896044618658097711785492504343953926634992332820282019728792003956564819949 :=
 prm_of (F := 74058212732561358302231226437062788676166966415465897661863160754340907) (by omega) (by omega) fun _ hr hd => pock2 (m := 781764) prm_p4 256 2 (by decide +kernel) hr hd
end Nt
end Go.Proofs.YtjllhimhiekchaaGreat

namespace Go.Proofs.YtjllhimhiekchaaGreat
namespace Fp
theorem p_pos : 0 < p := by unfold p; omega
theorem p_two : 2 < p := by unfold p; omega
theorem prm : Nt.Prm p := Nt.prm_p
instance : NeZero p := ⟨by unfold p; omega⟩
abbrev F := Fin p
def of (x : Nat) : F := ⟨x % p, Nat.mod_lt _ p_pos⟩
theorem of_val (a : F) : of a.val = a := Fin.ext (Nat.mod_eq_of_lt a.isLt)
theorem val_of (x : Nat) : (of x).val = x % p := rfl
theorem val_add (a b : F) : (a + b).val = (a.val + b.val) % p := Fin.val_add a b
theorem val_mul (a b : F) : (a * b).val = a.val * b.val % p := Fin.val_mul a b
theorem val_sub (a b : F) : (a - b).val = (a.val + p - b.val) % p := by
 have := a.isLt; have := b.isLt
 rw [Fin.sub_def]; show (p - b.val + a.val) % p = _
 congr 1; omega
theorem val_neg (a : F) : (-a).val = (p - a.val) % p := by
 rw [Fin.neg_def]
theorem val_zero : (0 : F).val = 0 := rfl
theorem val_one : (1 : F).val = 1 := rfl
theorem of_mul (x y : Nat) : of (x * y) = of x * of y := Fin.ext (by rw [val_mul, val_of, val_of, val_of, Nat.mul_mod])
theorem of_mod (x : Nat) : of (x % p) = of x := Fin.ext (Nat.mod_mod _ _)
theorem val_inj {a b : F} : a.val = b.val ↔ a = b := ⟨Fin.ext, fun h => by rw [h]⟩
theorem val_eq_zero {a : F} : a.val = 0 ↔ a = 0 := val_inj (b := 0)
theorem zero_or {a b : F} (h : a * b = 0) : a = 0 ∨ b = 0 := by
 have hv : a.val * b.val % p = 0 := by rw [← val_mul, h]; rfl
 rcases prm.dvd_mul (Nat.dvd_of_mod_eq_zero hv) with hd | hd
 ·left; exact val_eq_zero.1 (Nat.eq_zero_of_dvd_of_lt hd a.isLt)
 ·right; exact val_eq_zero.1 (Nat.eq_zero_of_dvd_of_lt hd b.isLt)
theorem cancel {a b c : F} (ha : a ≠ 0) (h : a * b = a * c) : b = c := by
 have : a * (b - c) = 0 := by grind
 rcases zero_or this with h | h
 ·exact absurd h ha
 ·grind
def pow (a : F) (e : Nat) : F := of (a.val ^ e)
theorem pow_val (a : F) (e : Nat) : (pow a e).val = a.val ^ e % p := rfl
theorem pow_zero (a : F) : pow a 0 = 1 := by unfold pow; rw [Nat.pow_zero]; rfl
theorem pow_succ (a : F) (e : Nat) : pow a (e + 1) = pow a e * a := by unfold pow; rw [Nat.pow_succ, of_mul, of_val]
theorem pow_one (a : F) : pow a 1 = a := by rw [show (1 : Nat) = 0 + 1 from rfl, pow_succ, pow_zero]; grind
theorem pow_add (a : F) (m n : Nat) : pow a (m + n) = pow a m * pow a n := by
 unfold pow; rw [Nat.pow_add, of_mul]
theorem pow_mul (a : F) (m n : Nat) : pow a (m * n) = pow (pow a m) n := by
 induction n with
 | zero => rw [Nat.mul_zero, pow_zero, pow_zero]
 | succ n ih => rw [Nat.mul_succ, pow_add, ih, pow_succ]
theorem zero_pow {n : Nat} (h : 0 < n) : pow 0 n = 0 := by
 obtain ⟨m, rfl⟩ : ∃ m, n = m + 1 := ⟨n - 1, by omega⟩
 rw [pow_succ]; grind
theorem pow_double (a : F) (n : Nat) : pow a (2 * n) = pow a n * pow a n := by rw [Nat.two_mul, pow_add]
theorem fermat {a : F} (h : a ≠ 0) : pow a (p - 1) = 1 := by
 have := Nt.fermat1 prm (a := a.val) (fun hd => h (val_eq_zero.1 (Nat.eq_zero_of_dvd_of_lt hd a.isLt)))
 exact Fin.ext this
def inv (a : F) : F := pow a (p - 2)
theorem mul_inv {a : F} (h : a ≠ 0) : a * inv a = 1 := by
 have hf := fermat h
 have hp := p_two
 rw [show p - 1 = (p - 2) + 1 by omega, pow_succ] at hf
 unfold inv; grind
theorem one_ne : (1 : F) ≠ 0 := fun h => by have := congrArg Fin.val h; rw [val_zero, val_one] at this; cases this
theorem inv_unique {a b : F} (h : a * b = 1) : b = inv a := by
 have ha : a ≠ 0 := fun hc => one_ne (by rw [← h, hc]; grind)
 exact cancel ha (by rw [h, mul_inv ha])
def half : Nat := 28948022309329048855892746252171976963317496166410141009864396001978282409974
theorem half_p : p - 1 = 2 * half := rfl
def Sqr (a : F) : Prop := pow a half = 0 ∨ pow a half = 1
instance (a : F) : Decidable (Sqr a) := inferInstanceAs (Decidable (_ ∨ _))
theorem pow_eq_zero {a : F} {n : Nat} (h : pow a n = 0) : a = 0 := by
  induction n with
  | zero => rw [pow_zero] at h; exact absurd h one_ne
  | succ n ih =>
    rw [pow_succ] at h
    rcases zero_or h with h | h
    · exact ih h
    · exact h
theorem sqr_of {a x : F} (h : x * x = a) : Sqr a := by
 by_cases hx : x = 0
 ·left
  subst hx; rw [← h, show (0 : F) * 0 = 0 by grind]
  exact zero_pow (by unfold half; omega)
 ·right
  rw [← h, show x * x = pow x 2 by rw [show (2 : Nat) = 2 * 1 from rfl, pow_double, pow_one], ← pow_mul, ← half_p]
  exact fermat hx
def quart : Nat := 14474011154664524427946373126085988481658748083205070504932198000989141204987
theorem half_quart : half = 2 * quart := rfl
def e8 : Nat := 7237005577332262213973186563042994240829374041602535252466099000494570602494
theorem e8_two : 2 * e8 = quart + 1 := rfl
def im : F := of 19681161376707505956807079304988542015446066515923890162744021073123829784752
theorem im_pow : pow (of 2) quart = im := Fin.ext (by
 rw [pow_val, show (of 2).val = 2 from rfl, ← Nt.pw_spec p 256 2 quart (by decide +kernel)]
 decide +kernel)
theorem im_two : im * im = -1 := by decide +kernel
def guess (a : F) : F := pow a e8
theorem guess_sq (a : F) : guess a * guess a = a * pow a quart := by
 unfold guess
 rw [← pow_double, e8_two, pow_succ]; grind
theorem guess_or {a : F} (h : Sqr a) : guess a * guess a = a ∨ (guess a * im) * (guess a * im) = a := by
 have hg := guess_sq a
 have hi := im_two
 rcases h with h | h
 ·left
  obtain rfl := pow_eq_zero h
  rw [hg]; grind
 ·have hq : pow a quart * pow a quart = 1 := by rw [← pow_double, ← half_quart, h]
  have : (pow a quart - 1) * (pow a quart + 1) = 0 := by grind
  rcases zero_or this with hz | hz
  ·left; grind
  ·right; grind
theorem neg_even {x : F} (h : x.val % 2 = 1) : (-x).val % 2 = 0 := by
 rw [val_neg]
 have hl := x.isLt
 have hp : p % 2 = 1 := by decide +kernel
 rw [show (p - x.val) % p = p - x.val from Nat.mod_eq_of_lt (by omega)]
 omega
def root (a : F) : F := let x := if guess a * guess a = a then guess a else guess a * im; if x.val % 2 = 1 then -x else x
theorem root_sq {a : F} (h : Sqr a) : root a * root a = a := by
 have h2 := guess_or h
 unfold root
 by_cases hg : guess a * guess a = a
 ·simp only [if_pos hg]; split <;> grind
 ·simp only [if_neg hg]
  have h3 := h2.resolve_left hg
  split <;> grind
theorem root_even (a : F) : (root a).val % 2 = 0 := by
 have key : ∀ x : F, (if x.val % 2 = 1 then -x else x).val % 2 = 0 := fun x => by
  by_cases h : x.val % 2 = 1
  ·rw [if_pos h]; exact neg_even h
  ·rw [if_neg h]; omega
 exact key _
theorem roots_two {x y : F} (h : x * x = y * y) : x = y ∨ x = -y := by
 have : (x - y) * (x + y) = 0 := by grind
 rcases zero_or this with h | h
 ·left; grind
 ·right; grind
end Fp
end Go.Proofs.YtjllhimhiekchaaGreat
