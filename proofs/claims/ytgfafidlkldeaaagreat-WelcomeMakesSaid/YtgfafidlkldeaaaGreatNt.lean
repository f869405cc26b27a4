/- Plain number theory: Fermat's little theorem and a test of primes (Pocklington's). No program in sight, no condition of mine. -/

set_option linter.unusedVariables false
set_option linter.unusedSimpArgs false
namespace Go.Proofs.YtgfafidlkldeaaaGreat
namespace Nt
def ln (r : Nat) : Prop := 2 ≤ r ∧ ∀ d, d ∣ r → d = 1 ∨ d = r
def ch : Nat → Nat → Nat
 | _, 0 => 1
 | 0, _ + 1 => 0
 | n + 1, k + 1 => ch n k + ch n (k + 1)
theorem nS (n : Nat) : ch n 0 = 1 := by cases n <;> rfl
theorem jV : ∀ (n k : Nat), n < k → ch n k = 0
 | 0, 0, h => absurd h (by omega)
 | 0, k + 1, _ => rfl
 | n + 1, 0, h => absurd h (by omega)
 | n + 1, k + 1, h => by rw [ch, jV n k (by omega), jV n (k + 1) (by omega)]
theorem xQ : ∀ n : Nat, ch n n = 1
 | 0 => rfl
 | n + 1 => by rw [ch, xQ n, jV n (n + 1) (by omega)]
theorem sF : ∀ (n k : Nat), (k + 1) * ch (n + 1) (k + 1) = (n + 1) * ch n k
  | 0, 0 => rfl
  | 0, k + 1 => by rw [jV (0 + 1) (k + 1 + 1) (by omega), jV 0 (k + 1) (by omega), Nat.mul_zero, Nat.mul_zero]
  | n + 1, 0 => by
    have h := sF n 0
    have e : ch (n + 1 + 1) (0 + 1) = ch (n + 1) 0 + ch (n + 1) (0 + 1) := rfl
    rw [nS] at h e
    rw [e, nS]
    omega
  | n + 1, k + 1 => by
    have h1 := sF n k
    have h2 := sF n (k + 1)
    rw [show ch (n + 1 + 1) (k + 1 + 1) = ch (n + 1) (k + 1) + ch (n + 1) (k + 1 + 1) from rfl]
    have e : ch (n + 1) (k + 1) = ch n k + ch n (k + 1) := rfl
    have a1 : (k + 1 + 1) * (ch (n + 1) (k + 1) + ch (n + 1) (k + 1 + 1)) = (k + 1) * ch (n + 1) (k + 1) + ch (n + 1) (k + 1) + (k + 1 + 1) * ch (n + 1) (k + 1 + 1) := by
      rw [Nat.mul_add, Nat.add_mul (k + 1) 1, Nat.one_mul]
    rw [a1, h1, h2, Nat.add_mul (n + 1) 1 (ch (n + 1) (k + 1)), Nat.one_mul]
    have a2 : (n + 1) * ch (n + 1) (k + 1) = (n + 1) * ch n k + (n + 1) * ch n (k + 1) := by rw [e, Nat.mul_add]
    omega
def cO (f : Nat → Nat) : Nat → Nat
 | 0 => 0
 | n + 1 => cO f n + f n
theorem nG {f g : Nat → Nat} : ∀ (n : Nat), (∀ k, k < n → f k = g k) → cO f n = cO g n
 | 0, _ => rfl
 | n + 1, h => by rw [cO, cO, nG n (fun k hk => h k (by omega)), h n (by omega)]
theorem qI (f g : Nat → Nat) : ∀ n, cO (fun k => f k + g k) n = cO f n + cO g n
 | 0 => rfl
 | n + 1 => by rw [cO, cO, cO, qI f g n]; omega
theorem rj (f : Nat → Nat) (c : Nat) : ∀ n, cO (fun k => f k * c) n = cO f n * c
 | 0 => by rw [cO, cO, Nat.zero_mul]
 | n + 1 => by rw [cO, cO, rj f c n, Nat.add_mul]
theorem gP (f : Nat → Nat) : ∀ n, cO f (n + 1) = f 0 + cO (fun k => f (k + 1)) n
 | 0 => by rw [cO, cO, cO]; omega
 | n + 1 => by rw [cO, gP f n, cO]; omega
theorem rA {f : Nat → Nat} {d : Nat} : ∀ n, (∀ k, k < n → d ∣ f k) → d ∣ cO f n
 | 0, _ => Nat.dvd_zero _
 | n + 1, h => Nat.dvd_add (rA n fun k hk => h k (by omega)) (h n (by omega))
theorem Iv (a : Nat) : ∀ n, (a + 1) ^ n = cO (fun k => ch n k * a ^ k) (n + 1)
  | 0 => by simp [cO, ch]
  | n + 1 => by
    rw [Nat.pow_succ, Iv a n, gP (fun k => ch (n + 1) k * a ^ k)]
    have e1 : cO (fun k => ch (n + 1) (k + 1) * a ^ (k + 1)) (n + 1) = cO (fun k => ch n k * a ^ k) (n + 1) * a + cO (fun k => ch n (k + 1) * a ^ (k + 1)) (n + 1) := by
      rw [← rj, ← qI]
      refine nG _ fun k _ => ?_
      rw [ch, Nat.add_mul, Nat.pow_succ, Nat.mul_assoc]
    have e2 : cO (fun k => ch n (k + 1) * a ^ (k + 1)) (n + 1) = cO (fun k => ch n (k + 1) * a ^ (k + 1)) n := by
      rw [cO, jV n (n + 1) (by omega), Nat.zero_mul, Nat.add_zero]
    have e3 := gP (fun k => ch n k * a ^ k) n
    simp only [nS, Nat.pow_zero, Nat.mul_one] at e3 ⊢
    rw [e1, e2, Nat.mul_add, Nat.mul_one]
    omega
theorem ln.Ob {r k : Nat} (h : ln r) (hk : ¬ r ∣ k) : Nat.Coprime r k := by
 rcases h.2 _ (Nat.gcd_dvd_left r k) with e | e
 ·exact e
 ·exact absurd (e ▸ Nat.gcd_dvd_right r k) hk
theorem ln.dvd_mul {r a b : Nat} (h : ln r) (hd : r ∣ a * b) : r ∣ a ∨ r ∣ b := by
 by_cases ha : r ∣ a
 ·exact .inl ha
 ·exact .inr ((h.Ob ha).dvd_of_dvd_mul_left hd)
theorem ln.IQ {r k : Nat} (h : ln r) (h0 : 0 < k) (hk : k < r) : r ∣ ch r k := by
 obtain ⟨k, rfl⟩ : ∃ j, k = j + 1 := ⟨k - 1, by omega⟩
 obtain ⟨n, rfl⟩ : ∃ j, r = j + 1 := ⟨r - 1, by omega⟩
 have hm := sF n k
 rcases h.dvd_mul (a := k + 1) (b := ch (n + 1) (k + 1)) (hm ▸ Nat.dvd_mul_right _ _) with hd | hd
 ·exact absurd (Nat.le_of_dvd (by omega) hd) (by omega)
 ·exact hd
theorem uh {r : Nat} (h : ln r) (a : Nat) : ∃ c, (a + 1) ^ r = a ^ r + 1 + r * c := by
 obtain ⟨n, rfl⟩ : ∃ j, r = j + 1 := ⟨r - 1, by have := h.1; omega⟩
 rw [Iv, cO, gP, xQ, nS, Nat.pow_zero, Nat.mul_one, Nat.one_mul]
 obtain ⟨c, hc⟩ := rA (d := n + 1) (f := fun k => ch (n + 1) (k + 1) * a ^ (k + 1)) n (fun k hk => Nat.dvd_trans (h.IQ (by omega) (by omega)) (Nat.dvd_mul_right _ _))
 exact ⟨c, by rw [hc]; omega⟩
theorem sa {r : Nat} (h : ln r) (a : Nat) : a ^ r % r = a % r := by
  induction a with
  | zero => rw [Nat.zero_pow (by have := h.1; omega)]
  | succ a ih =>
    obtain ⟨c, hc⟩ := uh h a
    rw [hc, Nat.add_mul_mod_self_left, Nat.add_mod, ih, ← Nat.add_mod]
theorem sW {r a b : Nat} (h : b ≤ a) : b % r = a % r ↔ r ∣ a - b := by
 rw [Nat.dvd_iff_mod_eq_zero]
 obtain ⟨c, rfl⟩ := Nat.exists_eq_add_of_le h
 rw [Nat.add_sub_cancel_left]
 constructor
 ·intro he
  rcases Nat.eq_zero_or_pos r with h0 | h0
  ·subst h0; simp only [Nat.mod_zero] at *; omega
  ·have h1 := Nat.add_mod b c r
   have hb := Nat.mod_lt b h0
   have hc := Nat.mod_lt c h0
   rw [← he] at h1
   rw [Nat.mod_def (b % r + c % r)] at h1
   by_cases hlt : b % r + c % r < r
   ·rw [Nat.div_eq_of_lt hlt] at h1; omega
   ·rw [show (b % r + c % r) / r = 1 from by rw [Nat.div_eq_iff h0]; omega] at h1; omega
 ·intro hc
  rw [Nat.add_mod, hc, Nat.add_zero, Nat.mod_mod]
theorem ln.cancel {r a b c : Nat} (h : ln r) (ha : ¬ r ∣ a) (he : a * b % r = a * c % r) : b % r = c % r := by
 have main : ∀ b c : Nat, c ≤ b → a * b % r = a * c % r → b % r = c % r := by
  intro b c hle he
  have hd : r ∣ a * b - a * c := (sW (Nat.mul_le_mul_left a hle)).1 he.symm
  rw [← Nat.mul_sub] at hd
  rcases h.dvd_mul hd with hd | hd
  ·exact absurd hd ha
  ·exact ((sW hle).2 hd).symm
 rcases Nat.le_total c b with hle | hle
 ·exact main b c hle he
 ·exact (main c b hle he.symm).symm
theorem xJ {r a : Nat} (h : ln r) (ha : ¬ r ∣ a) : a ^ (r - 1) % r = 1 := by
 have h2 := h.1
 have hf := sa h a
 obtain ⟨n, rfl⟩ : ∃ j, r = j + 1 := ⟨r - 1, by omega⟩
 have := h.cancel (a := a) (b := a ^ n) (c := 1) ha (by rw [Nat.mul_comm, ← Nat.pow_succ, hf, Nat.mul_one])
 rw [Nat.add_sub_cancel, this, Nat.mod_eq_of_lt (by omega)]
theorem uX {r x y : Nat} (hx : x % r = 1 % r) : x * y % r = y % r := by
 rw [Nat.mul_mod, hx, ← Nat.mul_mod, Nat.one_mul]
theorem nz {r x : Nat} (hx : x % r = 1 % r) (k : Nat) : x ^ k % r = 1 % r := by
 rw [Nat.pow_mod, hx, ← Nat.pow_mod, Nat.one_pow]
theorem one_gcd {r a : Nat} : ∀ (x y : Nat), a ^ x % r = 1 % r → a ^ y % r = 1 % r → a ^ Nat.gcd x y % r = 1 % r := by
  intro x y
  induction x, y using Nat.gcd.induction with
  | H0 y => intro _ hy; rw [Nat.gcd_zero_left]; exact hy
  | H1 x y hx ih =>
    intro h1 h2
    rw [Nat.gcd_rec]
    refine ih ?_ h1
    have e : a ^ y = (a ^ x) ^ (y / x) * a ^ (y % x) := by rw [← Nat.pow_mul, ← Nat.pow_add, Nat.div_add_mod]
    rw [e, uX (nz h1 _)] at h2
    exact h2
theorem M1 {n q m g : Nat} (hn : 1 < n) (hq : ln q) (a : Nat) (hm : n - 1 = q * m) (h1 : a ^ (n - 1) % n = 1) (h2 : a ^ m % n = g + 1) (h3 : Nat.gcd g n = 1) {r : Nat} (hr : ln r) (hd : r ∣ n) : q ∣ r - 1 := by
 have Vn := hr.1
 have Vl : a ^ (n - 1) % r = 1 % r := by
  have := congrArg (· % r) h1
  simpa [Nat.mod_mod_of_dvd _ hd] using this
 have hra : ¬ r ∣ a := fun hc => by
  obtain ⟨j, hj⟩ : ∃ j, n - 1 = j + 1 := ⟨n - 2, by omega⟩
  have : r ∣ a ^ (n - 1) := by rw [hj, Nat.pow_succ]; exact Nat.dvd_trans hc (Nat.dvd_mul_left _ _)
  rw [Nat.mod_eq_zero_of_dvd this, Nat.mod_eq_of_lt (by omega)] at Vl
  cases Vl
 apply Classical.byContradiction
 intro hcon
 have hf : a ^ (r - 1) % r = 1 % r := by rw [xJ hr hra, Nat.mod_eq_of_lt (by omega)]
 have hg := one_gcd (n - 1) (r - 1) Vl hf
 have hgm : Nat.gcd (n - 1) (r - 1) ∣ m := by
  have c1 : Nat.Coprime q (Nat.gcd (n - 1) (r - 1)) := hq.Ob fun hc => hcon (Nat.dvd_trans hc (Nat.gcd_dvd_right _ _))
  refine c1.symm.dvd_of_dvd_mul_left (n := m) (m := q) ?_
  rw [← hm]; exact Nat.gcd_dvd_left _ _
 have Vm : a ^ m % r = 1 % r := by
  obtain ⟨k, hk⟩ := hgm
  rw [hk, Nat.pow_mul]
  exact nz hg k
 have : (g + 1) % r = 1 % r := by
  have e := congrArg (· % r) h2
  simp only [Nat.mod_mod_of_dvd _ hd] at e
  rw [← e, Vm]
 have hdg : r ∣ g := by
  have := (sW (show 1 ≤ g + 1 by omega)).1 this.symm
  simpa using this
 have := Nat.dvd_gcd hdg hd
 rw [h3] at this
 have := Nat.le_of_dvd (by omega) this
 omega
theorem lS {n : Nat} (hn : 2 ≤ n) : ∃ r, ln r ∧ r ∣ n ∧ (r = n ∨ r * r ≤ n) := by
  have key : ∀ k d : Nat, d + k = n → 2 ≤ d → (∀ e, 2 ≤ e → e < d → ¬ e ∣ n) → ∃ r, 2 ≤ r ∧ r ∣ n ∧ ∀ e, 2 ≤ e → e < r → ¬ e ∣ n := by
    intro k
    induction k with
    | zero => intro d hd h2 hmin; exact ⟨d, h2, by rw [show d = n by omega]; exact Nat.dvd_refl n, hmin⟩
    | succ k ih =>
      intro d hd h2 hmin
      by_cases hdn : d ∣ n
      · exact ⟨d, h2, hdn, hmin⟩
      · refine ih (d + 1) (by omega) (by omega) fun e h2 he => ?_
        rcases Nat.lt_succ_iff_lt_or_eq.1 he with h | rfl
        · exact hmin e h2 h
        · exact hdn
  obtain ⟨r, h2, hrn, hmin⟩ := key (n - 2) 2 (by omega) (by omega) (fun e h1 h2 => by omega)
  refine ⟨r, ⟨h2, fun d hd => ?_⟩, hrn, ?_⟩
  · have Vm : d ≠ 0 := fun h => by subst h; have := Nat.eq_zero_of_zero_dvd hd; omega
    have hle := Nat.le_of_dvd (by omega) hd
    by_cases h1 : d = 1
    · exact .inl h1
    · right
      by_cases hlt : d < r
      · exact absurd (Nat.dvd_trans hd hrn) (hmin d (by omega) hlt)
      · omega
  · obtain ⟨k, hk⟩ := hrn
    by_cases Vl : k = 1
    · left; rw [hk, Vl, Nat.mul_one]
    · right
      have Vn : k ≠ 0 := fun h => by subst h; omega
      have : ¬ k < r := fun hlt => hmin k (by omega) hlt ⟨r, by rw [hk, Nat.mul_comm]⟩
      rw [hk]
      exact Nat.mul_le_mul_left r (by omega)
theorem oS {n F : Nat} (hn : 2 ≤ n) (hF : n < F * F) (h : ∀ r, ln r → r ∣ n → F ∣ r - 1) : ln n := by
 obtain ⟨r, hr, hd, hc⟩ := lS hn
 rcases hc with rfl | hc
 ·exact hr
 ·have h2 := hr.1
  have := Nat.le_of_dvd (by omega) (h r hr hd)
  have : F * F ≤ r * r := Nat.mul_le_mul (by omega) (by omega)
  omega
def xN (n : Nat) : Nat → Nat → Bool
 | 0, _ => true
 | k + 1, d => n % d != 0 && xN n k (d + 1)
theorem pK {n : Nat} : ∀ (k d : Nat), xN n k d = true → ∀ e, d ≤ e → e < d + k → ¬ e ∣ n
  | 0, d, _, e, h1, h2 => by omega
  | k + 1, d, h, e, h1, h2 => by
    simp only [xN, Bool.and_eq_true, bne_iff_ne, ne_eq] at h
    by_cases he : e = d
    · subst he; exact fun hd => h.1 (Nat.mod_eq_zero_of_dvd hd)
    · exact pK k (d + 1) h.2 e (by omega) (by omega)
theorem iw {n k : Nat} (hn : 2 ≤ n) (hk : n < (k + 2) * (k + 2)) (h : xN n k 2 = true) : ln n := by
 obtain ⟨r, hr, hd, hc⟩ := lS hn
 rcases hc with rfl | hc
 ·exact hr
 ·have hlt : r < k + 2 := Classical.byContradiction fun hge => by
   have : (k + 2) * (k + 2) ≤ r * r := Nat.mul_le_mul (by omega) (by omega)
   omega
  exact absurd hd (pK k 2 h r hr.1 (by omega))
def pw (n : Nat) : Nat → Nat → Nat → Nat
 | 0, _, _ => 1 % n
 | f + 1, a, e => if e = 0 then 1 % n else if e % 2 = 0 then pw n f (a * a % n) (e / 2) else a * pw n f (a * a % n) (e / 2) % n
theorem lC (n : Nat) : ∀ (f a e : Nat), e < 2 ^ f → pw n f a e = a ^ e % n
  | 0, a, e, h => by
    obtain rfl : e = 0 := by rw [Nat.pow_zero] at h; omega
    rfl
  | f + 1, a, e, h => by
    rw [pw]
    by_cases h0 : e = 0
    · rw [if_pos h0, h0, Nat.pow_zero]
    · rw [if_neg h0, lC n f (a * a % n) (e / 2) (by rw [Nat.pow_succ] at h; omega), ← Nat.pow_mod, ← Nat.pow_two, ← Nat.pow_mul]
      by_cases h2 : e % 2 = 0
      · rw [if_pos h2, show 2 * (e / 2) = e by omega]
      · rw [if_neg h2, Nat.mul_mod, Nat.mod_mod, ← Nat.mul_mod, Nat.mul_comm, ← Nat.pow_succ, show (2 * (e / 2)).succ = e by omega]
theorem mi {n q m : Nat} (hq : ln q) (f a : Nat) (h : (decide (1 < n) && decide (n - 1 = q * m) && decide (n < 2 ^ f) && decide (pw n f a (n - 1) = 1) && decide (0 < pw n f a m) && decide (Nat.gcd (pw n f a m - 1) n = 1)) = true) {r : Nat} (hr : ln r) (hd : r ∣ n) : q ∣ r - 1 := by
 simp only [Bool.and_eq_true, decide_eq_true_eq] at h
 obtain ⟨⟨⟨⟨⟨h0, hm⟩, hf⟩, h1⟩, hp⟩, h2⟩ := h
 have hmn : m ≤ n - 1 := by rw [hm]; exact Nat.le_mul_of_pos_left m (by have := hq.1; omega)
 rw [lC n f a (n - 1) (by omega)] at h1
 rw [lC n f a m (by omega)] at hp h2
 exact M1 (g := a ^ m % n - 1) h0 hq a hm h1 (by omega) h2 hr hd
theorem nU {a b c : Nat} (h : Nat.gcd a b = 1) (ha : a ∣ c) (hb : b ∣ c) : a * b ∣ c := Nat.Coprime.mul_dvd_of_dvd_of_dvd h ha hb
theorem xa : ln 430751 := iw (k := 660) (by omega) (by omega) (by decide +kernel)
theorem AB : ln 4153 := iw (k := 66) (by omega) (by omega) (by decide +kernel)
theorem y5 : ln 75707 := iw (k := 280) (by omega) (by omega) (by decide +kernel)
theorem ET : ln 127 := iw (k := 12) (by omega) (by omega) (by decide +kernel)
theorem tj : ln 8574133 := iw (k := 2930) (by omega) (by omega) (by decide +kernel)
theorem IM : ln 31757755568855353 :=
 oS (F := 430751 * 4153) (by omega) (by omega) fun _ hr hd => nU (by decide +kernel) (mi (m := 73726481352) xa 60 2 (by decide +kernel) hr hd) (mi (m := 7646943310584) AB 60 2 (by decide +kernel) hr hd)
theorem JL : ln 1919519569386763 :=
 oS (F := 8574133 * 127) (by omega) (by omega) fun _ hr hd => nU (by decide +kernel) (mi (m := 223873314) tj 60 2 (by decide +kernel) hr hd) (mi (m := 15114327318006) ET 60 2 (by decide +kernel) hr hd)
theorem KW : ln 75445702479781427272750846543864801 :=
 oS (F := 1919519569386763 * 75707) (by omega) (by omega) fun _ hr hd => nU (by decide +kernel) (mi (m := 39304471641247389600) JL 120 2 (by decide +kernel) hr hd) (mi (m := 996548568557483816196003626400) y5 120 2 (by decide +kernel) hr hd)
theorem JB : ln 74058212732561358302231226437062788676166966415465897661863160754340907 :=
 oS (F := 75445702479781427272750846543864801 * 31757755568855353) (by omega) (by omega) fun _ hr hd => nU (by decide +kernel) (mi (m := 981609426360740691344999861639072106) KW 240 2 (by decide +kernel) hr hd) (mi (m := 2331972502653487852620185443007392165117953542933313402) IM 240 2 (by decide +kernel) hr hd)
theorem LK : ln 57896044618658097711785492504343953926634992332820282019728792003956564819949 :=
 oS (F := 74058212732561358302231226437062788676166966415465897661863160754340907) (by omega) (by omega) fun _ hr hd => mi (m := 781764) JB 256 2 (by decide +kernel) hr hd
end Nt
end Go.Proofs.YtgfafidlkldeaaaGreat
