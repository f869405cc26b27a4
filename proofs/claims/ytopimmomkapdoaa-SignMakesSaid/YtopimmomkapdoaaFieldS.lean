/- The field's numbers as five limbs of 51 bits: carry, the least, products: plain functions. No program in sight. -/
namespace Go.Proofs.Ytopimmomkapdoaa
namespace Fp
def p : Nat := 57896044618658097711785492504343953926634992332820282019728792003956564819949
/-- A function's first values as a list. -/
def fn (n : Nat) (f : Nat → Nat) : List Nat := (List.range n).map f
theorem fn_length (n : Nat) (f : Nat → Nat) : (fn n f).length = n := by simp [fn]
theorem fn_get {n j : Nat} (f : Nat → Nat) (h : j < n) : (fn n f).getD j 0 = f j := by
  simp [fn, h]
theorem fn_congr {n : Nat} {f g : Nat → Nat} (h : ∀ j, j < n → f j = g j) : fn n f = fn n g := by
  unfold fn
  exact List.map_congr_left fun j hj => h j (List.mem_range.1 hj)
theorem fn_set (n : Nat) (f : Nat → Nat) (i x : Nat) : (fn n f).set i x = fn n (fun j => if j = i then x else f j) := by
  apply List.ext_getElem
  · simp [fn]
  · intro j h1 h2
    simp only [fn, List.getElem_set, List.getElem_map, List.getElem_range]
    by_cases h : i = j
    · subst h; simp
    · rw [if_neg h, if_neg (fun e => h e.symm)]
theorem fn_of (l : List Nat) : l = fn l.length (fun j => l.getD j 0) := by
  apply List.ext_getElem
  · simp [fn]
  · intro j h1 h2
    simp [fn, h1]
def val (f : Nat → Nat) : Nat := f 0 + 2251799813685248 * f 1 + 5070602400912917605986812821504 * f 2 + 11417981541647679048466287755595961091061972992 * f 3 + 25711008708143844408671393477458601640355247900524685364822016 * f 4
theorem val_congr {f g : Nat → Nat} (h : ∀ j, j < 5 → f j = g j) : val f = val g := by
  unfold val
  rw [h 0 (by omega), h 1 (by omega), h 2 (by omega), h 3 (by omega), h 4 (by omega)]
/-- Limbs a little above 2^51 at most. -/
def small (f : Nat → Nat) : Prop := ∀ j, j < 5 → f j < 2251799813840896
def carry (f : Nat → Nat) (j : Nat) : Nat := f j % 2251799813685248 + (if j = 0 then f 4 / 2251799813685248 * 19 else f (j - 1) / 2251799813685248)
theorem val_carry (f : Nat → Nat) : val f = val (carry f) + p * (f 4 / 2251799813685248) := by
  simp only [val, carry, p]
  simp
  omega
theorem carry_lt {f : Nat → Nat} (h : ∀ j, j < 5 → f j < 18446744073709551616) (j : Nat) (hj : j < 5) : carry f j < 2251799813685248 + 155648 := by
  unfold carry
  have h4 := h 4 (by omega)
  split
  · omega
  · have := h (j - 1) (by omega); omega
theorem carry_small {f : Nat → Nat} (h : ∀ j, j < 5 → f j < 18446744073709551616) : small (carry f) := fun j hj => by
  have := carry_lt h j hj; omega
theorem carry_lt2 {f : Nat → Nat} (h : small f) (j : Nat) (hj : j < 5) : carry f j < 2251799813685248 + 19 := by
  unfold carry
  have h4 := h 4 (by omega)
  split
  · omega
  · have := h (j - 1) (by omega); omega
theorem val_mod_carry (f : Nat → Nat) : val (carry f) % p = val f % p := by
  rw [val_carry f, Nat.add_mul_mod_self_left]
/-- The least: what is 2^255 - 19 or more is told by 19 more. -/
def qc (g : Nat → Nat) : Nat → Nat
  | 0 => 19
  | i + 1 => (g i + qc g i) / 2251799813685248
def rc (g : Nat → Nat) (q : Nat) : Nat → Nat
  | 0 => 19 * q
  | i + 1 => (g i + rc g q i) / 2251799813685248
theorem qc_le {g : Nat → Nat} (h : ∀ j, j < 5 → g j < 4503599627370496) (i : Nat) (hi : i ≤ 5) : qc g i ≤ 19 := by
  induction i with
  | zero => exact Nat.le_refl _
  | succ i ih => have := ih (by omega); have := h i (by omega); rw [qc]; omega
theorem rc_le {g : Nat → Nat} {q : Nat} (hq : q ≤ 19) (h : ∀ j, j < 5 → g j < 4503599627370496) (i : Nat) (hi : i ≤ 5) : rc g q i ≤ 361 := by
  induction i with
  | zero => rw [rc]; omega
  | succ i ih => have := ih (by omega); have := h i (by omega); rw [rc]; omega
/-- The limbs on the way. -/
def st (g : Nat → Nat) (q i j : Nat) : Nat := if j < i then (g j + rc g q j) % 2251799813685248 else if j = i then g j + rc g q j else g j
theorem st_at (g : Nat → Nat) (q i : Nat) : st g q i i = g i + rc g q i := by simp [st]
theorem st_next (g : Nat → Nat) (q i : Nat) : st g q i (i + 1) = g (i + 1) := by unfold st; rw [if_neg (by omega), if_neg (by omega)]
theorem st_zero (g : Nat → Nat) (q j : Nat) : (if j = 0 then g 0 + 19 * q else g j) = st g q 0 j := by
  by_cases h : j = 0
  · subst h; simp [st, rc]
  · simp [st, h]
theorem st_step (g : Nat → Nat) (q i j : Nat) : (if j = i then (g i + rc g q i) % 2251799813685248 else if j = i + 1 then g (i + 1) + (g i + rc g q i) / 2251799813685248 else st g q i j) = st g q (i + 1) j := by
  by_cases h1 : j = i
  · subst h1; rw [if_pos rfl]; unfold st; rw [if_pos (by omega)]
  · rw [if_neg h1]
    by_cases h2 : j = i + 1
    · subst h2; rw [if_pos rfl]; unfold st; rw [if_neg (by omega), if_pos rfl, rc]
    · rw [if_neg h2]; unfold st
      by_cases h3 : j < i
      · rw [if_pos h3, if_pos (by omega)]
      · rw [if_neg h3, if_neg h1, if_neg (by omega), if_neg h2]
theorem st_end (g : Nat → Nat) (q j : Nat) (hj : j < 5) : (if j = 4 then (g 4 + rc g q 4) % 2251799813685248 else st g q 4 j) = (g j + rc g q j) % 2251799813685248 := by
  by_cases h : j = 4
  · subst h; rw [if_pos rfl]
  · rw [if_neg h]; unfold st; rw [if_pos (by omega)]
def limb (v j : Nat) : Nat := v / 2251799813685248 ^ j % 2251799813685248
theorem limb_lt (v j : Nat) : limb v j < 2251799813685248 := Nat.mod_lt _ (by omega)
theorem val_limb (h : Nat → Nat) (hl : ∀ j, j < 5 → h j < 2251799813685248) (j : Nat) (hj : j < 5) : limb (val h) j = h j := by
  have h0 := hl 0 (by omega); have h1 := hl 1 (by omega); have h2 := hl 2 (by omega); have h3 := hl 3 (by omega); have h4 := hl 4 (by omega)
  unfold limb val
  match j, hj with
  | 0, _ => rw [Nat.pow_zero]; omega
  | 1, _ => rw [Nat.pow_one]; omega
  | 2, _ => rw [show 2251799813685248 ^ 2 = 5070602400912917605986812821504 from rfl]; omega
  | 3, _ => rw [show 2251799813685248 ^ 3 = 11417981541647679048466287755595961091061972992 from rfl]; omega
  | 4, _ => rw [show 2251799813685248 ^ 4 = 25711008708143844408671393477458601640355247900524685364822016 from rfl]; omega
theorem limb_val (v : Nat) (hv : v < 57896044618658097711785492504343953926634992332820282019728792003956564819968) : val (limb v) = v := by
  simp only [limb, val, Nat.pow_zero, Nat.pow_one]
  rw [show 2251799813685248 ^ 2 = 5070602400912917605986812821504 from rfl, show 2251799813685248 ^ 3 = 11417981541647679048466287755595961091061972992 from rfl, show 2251799813685248 ^ 4 = 25711008708143844408671393477458601640355247900524685364822016 from rfl]
  omega
theorem qc_end (g : Nat → Nat) : qc g 5 = (val g + 19) / 57896044618658097711785492504343953926634992332820282019728792003956564819968 := by
  simp only [qc, val]
  omega
theorem rc_end (g : Nat → Nat) (q : Nat) : val (fun j => (g j + rc g q j) % 2251799813685248) + 57896044618658097711785492504343953926634992332820282019728792003956564819968 * rc g q 5 = val g + 19 * q := by
  simp only [rc, val]
  omega
theorem val_lt {h : Nat → Nat} (hl : ∀ j, j < 5 → h j < 2251799813685248) : val h < 57896044618658097711785492504343953926634992332820282019728792003956564819968 := by
  have h0 := hl 0 (by omega); have h1 := hl 1 (by omega); have h2 := hl 2 (by omega); have h3 := hl 3 (by omega); have h4 := hl 4 (by omega)
  unfold val
  omega
theorem least_eq {f g : Nat → Nat} (hf : small f) (hg : g = carry (carry f)) (j : Nat) (hj : j < 5) : (g j + rc g (qc g 5) j) % 2251799813685248 = limb (val f % p) j := by
  have hs := carry_small (f := f) (fun j hj => by have := hf j hj; omega)
  have hb : ∀ j, j < 5 → g j < 2251799813685248 + 19 := fun j hj => by rw [hg]; exact carry_lt2 hs j hj
  have hvg : val g % p = val f % p := by rw [hg, val_mod_carry, val_mod_carry]
  have hq := qc_end g
  have hr := rc_end g (qc g 5)
  have hlt := val_lt (h := fun j => (g j + rc g (qc g 5) j) % 2251799813685248) (fun j _ => Nat.mod_lt _ (by omega))
  have hgv : val g < 2 * p - 100 := by
    have h0 := hb 0 (by omega); have h1 := hb 1 (by omega); have h2 := hb 2 (by omega); have h3 := hb 3 (by omega); have h4 := hb 4 (by omega)
    unfold val p
    omega
  have key : val (fun j => (g j + rc g (qc g 5) j) % 2251799813685248) = val g % p := by
    unfold p at hgv ⊢
    have hc : qc g 5 = 0 ∨ qc g 5 = 1 := by omega
    rcases hc with hc | hc
    · rw [hc] at hr hq hlt ⊢
      rw [Nat.mod_eq_of_lt (by omega)]
      omega
    · rw [hc] at hr hq hlt ⊢
      rw [Nat.mod_eq_sub_mod (by omega), Nat.mod_eq_of_lt (by omega)]
      omega
  rw [← hvg, ← key]
  exact (val_limb (fun j => (g j + rc g (qc g 5) j) % 2251799813685248) (fun j _ => Nat.mod_lt _ (by omega)) j hj).symm
/-- Products: by steps. -/
def mulT (f g : Nat → Nat) (t r : Nat) : Nat := if (t / 5 + t % 5) % 5 = r then f (t / 5) * (if 5 ≤ t / 5 + t % 5 then g (t % 5) * 19 else g (t % 5)) else 0
def acc (f g : Nat → Nat) : Nat → Nat → Nat
  | 0, _ => 0
  | t + 1, r => acc f g t r + mulT f g t r
theorem mul_fold (f0 f1 f2 f3 f4 g0 g1 g2 g3 g4 : Nat) :
    ∃ k, (f0 + 2251799813685248 * f1 + 5070602400912917605986812821504 * f2 + 11417981541647679048466287755595961091061972992 * f3 + 25711008708143844408671393477458601640355247900524685364822016 * f4) * (g0 + 2251799813685248 * g1 + 5070602400912917605986812821504 * g2 + 11417981541647679048466287755595961091061972992 * g3 + 25711008708143844408671393477458601640355247900524685364822016 * g4) = (f0 * g0 + 19 * (f1 * g4) + 19 * (f2 * g3) + 19 * (f3 * g2) + 19 * (f4 * g1)) + 2251799813685248 * (f0 * g1 + f1 * g0 + 19 * (f2 * g4) + 19 * (f3 * g3) + 19 * (f4 * g2)) + 5070602400912917605986812821504 * (f0 * g2 + f1 * g1 + f2 * g0 + 19 * (f3 * g4) + 19 * (f4 * g3)) + 11417981541647679048466287755595961091061972992 * (f0 * g3 + f1 * g2 + f2 * g1 + f3 * g0 + 19 * (f4 * g4)) + 25711008708143844408671393477458601640355247900524685364822016 * (f0 * g4 + f1 * g3 + f2 * g2 + f3 * g1 + f4 * g0) + 57896044618658097711785492504343953926634992332820282019728792003956564819949 * k := by
  refine ⟨((f1 * g4) + (f2 * g3) + 2251799813685248 * (f2 * g4) + (f3 * g2) + 2251799813685248 * (f3 * g3) + 5070602400912917605986812821504 * (f3 * g4) + (f4 * g1) + 2251799813685248 * (f4 * g2) + 5070602400912917605986812821504 * (f4 * g3) + 11417981541647679048466287755595961091061972992 * (f4 * g4)), ?_⟩
  have e01 : f0 * (2251799813685248 * g1) = 2251799813685248 * (f0 * g1) := Nat.mul_left_comm _ _ _
  have e02 : f0 * (5070602400912917605986812821504 * g2) = 5070602400912917605986812821504 * (f0 * g2) := Nat.mul_left_comm _ _ _
  have e03 : f0 * (11417981541647679048466287755595961091061972992 * g3) = 11417981541647679048466287755595961091061972992 * (f0 * g3) := Nat.mul_left_comm _ _ _
  have e04 : f0 * (25711008708143844408671393477458601640355247900524685364822016 * g4) = 25711008708143844408671393477458601640355247900524685364822016 * (f0 * g4) := Nat.mul_left_comm _ _ _
  have e10 : 2251799813685248 * f1 * g0 = 2251799813685248 * (f1 * g0) := Nat.mul_assoc _ _ _
  have e11 : 2251799813685248 * f1 * (2251799813685248 * g1) = 5070602400912917605986812821504 * (f1 * g1) := by rw [Nat.mul_mul_mul_comm]
  have e12 : 2251799813685248 * f1 * (5070602400912917605986812821504 * g2) = 11417981541647679048466287755595961091061972992 * (f1 * g2) := by rw [Nat.mul_mul_mul_comm]
  have e13 : 2251799813685248 * f1 * (11417981541647679048466287755595961091061972992 * g3) = 25711008708143844408671393477458601640355247900524685364822016 * (f1 * g3) := by rw [Nat.mul_mul_mul_comm]
  have e14 : 2251799813685248 * f1 * (25711008708143844408671393477458601640355247900524685364822016 * g4) = 57896044618658097711785492504343953926634992332820282019728792003956564819968 * (f1 * g4) := by rw [Nat.mul_mul_mul_comm]
  have e20 : 5070602400912917605986812821504 * f2 * g0 = 5070602400912917605986812821504 * (f2 * g0) := Nat.mul_assoc _ _ _
  have e21 : 5070602400912917605986812821504 * f2 * (2251799813685248 * g1) = 11417981541647679048466287755595961091061972992 * (f2 * g1) := by rw [Nat.mul_mul_mul_comm]
  have e22 : 5070602400912917605986812821504 * f2 * (5070602400912917605986812821504 * g2) = 25711008708143844408671393477458601640355247900524685364822016 * (f2 * g2) := by rw [Nat.mul_mul_mul_comm]
  have e23 : 5070602400912917605986812821504 * f2 * (11417981541647679048466287755595961091061972992 * g3) = 57896044618658097711785492504343953926634992332820282019728792003956564819968 * (f2 * g3) := by rw [Nat.mul_mul_mul_comm]
  have e24 : 5070602400912917605986812821504 * f2 * (25711008708143844408671393477458601640355247900524685364822016 * g4) = 130370302485407109521180524058200202307293977194619920040712988758680403184853549195737432064 * (f2 * g4) := by rw [Nat.mul_mul_mul_comm]
  have e30 : 11417981541647679048466287755595961091061972992 * f3 * g0 = 11417981541647679048466287755595961091061972992 * (f3 * g0) := Nat.mul_assoc _ _ _
  have e31 : 11417981541647679048466287755595961091061972992 * f3 * (2251799813685248 * g1) = 25711008708143844408671393477458601640355247900524685364822016 * (f3 * g1) := by rw [Nat.mul_mul_mul_comm]
  have e32 : 11417981541647679048466287755595961091061972992 * f3 * (5070602400912917605986812821504 * g2) = 57896044618658097711785492504343953926634992332820282019728792003956564819968 * (f3 * g2) := by rw [Nat.mul_mul_mul_comm]
  have e33 : 11417981541647679048466287755595961091061972992 * f3 * (11417981541647679048466287755595961091061972992 * g3) = 130370302485407109521180524058200202307293977194619920040712988758680403184853549195737432064 * (f3 * g3) := by rw [Nat.mul_mul_mul_comm]
  have e34 : 11417981541647679048466287755595961091061972992 * f3 * (25711008708143844408671393477458601640355247900524685364822016 * g4) = 293567822846729153486185074598667128421960318613539983838411371441526128139326055432962374798096087878991872 * (f3 * g4) := by rw [Nat.mul_mul_mul_comm]
  have e40 : 25711008708143844408671393477458601640355247900524685364822016 * f4 * g0 = 25711008708143844408671393477458601640355247900524685364822016 * (f4 * g0) := Nat.mul_assoc _ _ _
  have e41 : 25711008708143844408671393477458601640355247900524685364822016 * f4 * (2251799813685248 * g1) = 57896044618658097711785492504343953926634992332820282019728792003956564819968 * (f4 * g1) := by rw [Nat.mul_mul_mul_comm]
  have e42 : 25711008708143844408671393477458601640355247900524685364822016 * f4 * (5070602400912917605986812821504 * g2) = 130370302485407109521180524058200202307293977194619920040712988758680403184853549195737432064 * (f4 * g2) := by rw [Nat.mul_mul_mul_comm]
  have e43 : 25711008708143844408671393477458601640355247900524685364822016 * f4 * (11417981541647679048466287755595961091061972992 * g3) = 293567822846729153486185074598667128421960318613539983838411371441526128139326055432962374798096087878991872 * (f4 * g3) := by rw [Nat.mul_mul_mul_comm]
  have e44 : 25711008708143844408671393477458601640355247900524685364822016 * f4 * (25711008708143844408671393477458601640355247900524685364822016 * g4) = 661055968790248598951915308032771039828404682964281219284648795274405791236311345825189210439715284847591212025023358304256 * (f4 * g4) := by rw [Nat.mul_mul_mul_comm]
  rw [Nat.mul_add, Nat.mul_add, Nat.mul_add, Nat.mul_add]
  simp only [Nat.add_mul]
  rw [e01, e02, e03, e04, e10, e11, e12, e13, e14, e20, e21, e22, e23, e24, e30, e31, e32, e33, e34, e40, e41, e42, e43, e44]
  omega
theorem acc_le {f g : Nat → Nat} (hf : small f) (hg : small g) (t r : Nat) (ht : t ≤ 25) : acc f g t r ≤ t * 385365782469381738054997774434304 := by
  induction t with
  | zero => simp [acc]
  | succ t ih =>
    have h1 := ih (by omega)
    have h2 : mulT f g t r ≤ 385365782469381738054997774434304 := by
      unfold mulT
      split
      · have hf1 := hf (t / 5) (by omega)
        have hg1 := hg (t % 5) (by omega)
        have : f (t / 5) * (if 5 ≤ t / 5 + t % 5 then g (t % 5) * 19 else g (t % 5)) ≤ 4503599627370496 * (4503599627370496 * 19) := Nat.mul_le_mul (by omega) (by split <;> omega)
        omega
      · omega
    rw [acc]
    omega
theorem acc_val (f g : Nat → Nat) : ∃ k, val f * val g = val (acc f g 25) + p * k := by
  obtain ⟨k, hk⟩ := mul_fold (f 0) (f 1) (f 2) (f 3) (f 4) (g 0) (g 1) (g 2) (g 3) (g 4)
  refine ⟨k, hk.trans ?_⟩
  congr 1
  simp only [val, acc, mulT]
  simp
  have e : ∀ x y : Nat, x * (y * 19) = 19 * (x * y) := fun x y => by rw [← Nat.mul_assoc, Nat.mul_comm]
  simp only [e]
theorem acc_four {f g : Nat → Nat} (hf : small f) (hg : small g) : acc f g 25 4 ≤ 101412048018258352119736256430080 := by
  have e : acc f g 25 4 = f 0 * g 4 + f 1 * g 3 + f 2 * g 2 + f 3 * g 1 + f 4 * g 0 := by
    simp [acc, mulT]
  have h : ∀ i k, i < 5 → k < 5 → f i * g k ≤ 4503599627370496 * 4503599627370496 := fun i k hi hk => Nat.mul_le_mul (by have := hf i hi; omega) (by have := hg k hk; omega)
  have h0 := h 0 4 (by omega) (by omega); have h1 := h 1 3 (by omega) (by omega); have h2 := h 2 2 (by omega) (by omega); have h3 := h 3 1 (by omega) (by omega); have h4 := h 4 0 (by omega) (by omega)
  omega
def fr (s : Nat → Nat) : Nat → Nat
  | 0 => 0
  | i + 1 => (s i + fr s i) / 2251799813685248
theorem fr_le {s : Nat → Nat} (h : ∀ j, j < 5 → s j ≤ 9634144561734543451374944360857600) (i : Nat) (hi : i ≤ 5) : fr s i ≤ 4278419646001973101 := by
  induction i with
  | zero => exact Nat.zero_le _
  | succ i ih => have := ih (by omega); have := h i (by omega); rw [fr]; omega
theorem fr_five {s : Nat → Nat} (h : ∀ j, j < 5 → s j ≤ 9634144561734543451374944360857600) (h4 : s 4 ≤ 101412048018258352119736256430080) : fr s 5 ≤ 45035996273706861 := by
  have := fr_le h 4 (by omega)
  rw [fr]; omega
theorem fr_val (s : Nat → Nat) : val (fun j => (s j + fr s j) % 2251799813685248) + 57896044618658097711785492504343953926634992332820282019728792003956564819968 * fr s 5 = val s := by
  simp only [fr, val]
  omega
theorem val_out (s : Nat → Nat) : val (fun j => (s j + fr s j) % 2251799813685248 + (if j = 0 then fr s 5 * 19 else 0)) + p * fr s 5 = val s := by
  have h := fr_val s
  simp only [val, p] at *
  simp
  omega
end Fp
end Go.Proofs.Ytopimmomkapdoaa
