/- The field's numbers as five limbs of 51 bits: carry, the least, products: plain functions. No program in sight. Numbers of bytes, the lowest first: plain. No program in sight. -/

set_option linter.unusedVariables false
set_option linter.unusedSimpArgs false
namespace Go.Proofs.YtgfafidlkldeaaaGreat
section
namespace Fp
def p : Nat := 57896044618658097711785492504343953926634992332820282019728792003956564819949
def fn (n : Nat) (f : Nat → Nat) : List Nat := (List.range n).map f
theorem dF (n : Nat) (f : Nat → Nat) : (fn n f).length = n := by simp [fn]
theorem ow {n j : Nat} (f : Nat → Nat) (h : j < n) : (fn n f).getD j 0 = f j := by
 simp [fn, h]
theorem lX {n : Nat} {f g : Nat → Nat} (h : ∀ j, j < n → f j = g j) : fn n f = fn n g := by
 unfold fn
 exact List.map_congr_left fun j hj => h j (List.mem_range.1 hj)
theorem vZ (n : Nat) (f : Nat → Nat) (i x : Nat) : (fn n f).set i x = fn n (fun j => if j = i then x else f j) := by
 apply List.ext_getElem
 ·simp [fn]
 ·intro j _ _
  simp only [fn, List.getElem_set, List.getElem_map, List.getElem_range]
  by_cases h : i = j
  ·subst h; simp
  ·rw [if_neg h, if_neg (fun e => h e.symm)]
theorem Lu (l : List Nat) : l = fn l.length (fun j => l.getD j 0) := by
 apply List.ext_getElem
 ·simp [fn]
 ·intro j h1 _
  simp [fn, h1]
def val (f : Nat → Nat) : Nat := f 0 + 2251799813685248 * f 1 + 5070602400912917605986812821504 * f 2 + 11417981541647679048466287755595961091061972992 * f 3 + 25711008708143844408671393477458601640355247900524685364822016 * f 4
theorem val_congr {f g : Nat → Nat} (h : ∀ j, j < 5 → f j = g j) : val f = val g := by
 unfold val
 rw [h 0 (by omega), h 1 (by omega), h 2 (by omega), h 3 (by omega), h 4 (by omega)]
def small (f : Nat → Nat) : Prop := ∀ j, j < 5 → f j < 2251799813840896
def carry (f : Nat → Nat) (j : Nat) : Nat := f j % 2251799813685248 + (if j = 0 then f 4 / 2251799813685248 * 19 else f (j - 1) / 2251799813685248)
theorem Af (f : Nat → Nat) : val f = val (carry f) + p * (f 4 / 2251799813685248) := by
 simp only [val, carry, p]
 simp
 omega
theorem Dr {f : Nat → Nat} (h : ∀ j, j < 5 → f j < 18446744073709551616) (j : Nat) (hj : j < 5) : carry f j < 2251799813685248 + 155648 := by
 unfold carry
 have h4 := h 4 (by omega)
 split
 ·omega
 ·have := h (j - 1) (by omega); omega
theorem fM {f : Nat → Nat} (h : ∀ j, j < 5 → f j < 18446744073709551616) : small (carry f) := fun j hj => by
 have := Dr h j hj; omega
theorem rp {f : Nat → Nat} (h : small f) (j : Nat) (hj : j < 5) : carry f j < 2251799813685248 + 19 := by
 unfold carry
 have h4 := h 4 (by omega)
 split
 ·omega
 ·have := h (j - 1) (by omega); omega
theorem dY (f : Nat → Nat) : val (carry f) % p = val f % p := by
 rw [Af f, Nat.add_mul_mod_self_left]
def qc (g : Nat → Nat) : Nat → Nat
 | 0 => 19
 | i + 1 => (g i + qc g i) / 2251799813685248
def rc (g : Nat → Nat) (q : Nat) : Nat → Nat
 | 0 => 19 * q
 | i + 1 => (g i + rc g q i) / 2251799813685248
theorem Ik {g : Nat → Nat} (h : ∀ j, j < 5 → g j < 4503599627370496) (i : Nat) (hi : i ≤ 5) : qc g i ≤ 19 := by
 induction i with
 | zero => exact Nat.le_refl _
 | succ i ih => have := ih (by omega); have := h i (by omega); rw [qc]; omega
theorem Iq {g : Nat → Nat} {q : Nat} (hq : q ≤ 19) (h : ∀ j, j < 5 → g j < 4503599627370496) (i : Nat) (hi : i ≤ 5) : rc g q i ≤ 361 := by
 induction i with
 | zero => rw [rc]; omega
 | succ i ih => have := ih (by omega); have := h i (by omega); rw [rc]; omega
def st (g : Nat → Nat) (q i j : Nat) : Nat := if j < i then (g j + rc g q j) % 2251799813685248 else if j = i then g j + rc g q j else g j
theorem Cu (g : Nat → Nat) (q i : Nat) : st g q i i = g i + rc g q i := by simp [st]
theorem FT (g : Nat → Nat) (q i : Nat) : st g q i (i + 1) = g (i + 1) := by unfold st; rw [if_neg (by omega), if_neg (by omega)]
theorem Em (g : Nat → Nat) (q j : Nat) : (if j = 0 then g 0 + 19 * q else g j) = st g q 0 j := by
 by_cases h : j = 0
 ·subst h; simp [st, rc]
 ·simp [st, h]
theorem GS (g : Nat → Nat) (q i j : Nat) : (if j = i then (g i + rc g q i) % 2251799813685248 else if j = i + 1 then g (i + 1) + (g i + rc g q i) / 2251799813685248 else st g q i j) = st g q (i + 1) j := by
 by_cases h1 : j = i
 ·subst h1; rw [if_pos rfl]; unfold st; rw [if_pos (by omega)]
 ·rw [if_neg h1]
  by_cases h2 : j = i + 1
  ·subst h2; rw [if_pos rfl]; unfold st; rw [if_neg (by omega), if_pos rfl, rc]
  ·rw [if_neg h2]; unfold st
   by_cases h3 : j < i
   ·rw [if_pos h3, if_pos (by omega)]
   ·rw [if_neg h3, if_neg h1, if_neg (by omega), if_neg h2]
theorem Jj (g : Nat → Nat) (q j : Nat) (hj : j < 5) : (if j = 4 then (g 4 + rc g q 4) % 2251799813685248 else st g q 4 j) = (g j + rc g q j) % 2251799813685248 := by
 by_cases h : j = 4
 ·subst h; rw [if_pos rfl]
 ·rw [if_neg h]; unfold st; rw [if_pos (by omega)]
def eE (v j : Nat) : Nat := v / 2251799813685248 ^ j % 2251799813685248
theorem xK (v j : Nat) : eE v j < 2251799813685248 := Nat.mod_lt _ (by omega)
theorem CD (h : Nat → Nat) (hl : ∀ j, j < 5 → h j < 2251799813685248) (j : Nat) (hj : j < 5) : eE (val h) j = h j := by
 have h0 := hl 0 (by omega); have h1 := hl 1 (by omega); have h2 := hl 2 (by omega); have h3 := hl 3 (by omega); have h4 := hl 4 (by omega)
 unfold eE val
 match j, hj with
 | 0, _ => rw [Nat.pow_zero]; omega
 | 1, _ => rw [Nat.pow_one]; omega
 | 2, _ => rw [show 2251799813685248 ^ 2 = 5070602400912917605986812821504 from rfl]; omega
 | 3, _ => rw [show 2251799813685248 ^ 3 = 11417981541647679048466287755595961091061972992 from rfl]; omega
 | 4, _ => rw [show 2251799813685248 ^ 4 = 25711008708143844408671393477458601640355247900524685364822016 from rfl]; omega
theorem tZ (v : Nat) (hv : v < 57896044618658097711785492504343953926634992332820282019728792003956564819968) : val (eE v) = v := by
 simp only [eE, val, Nat.pow_zero, Nat.pow_one]
 rw [show 2251799813685248 ^ 2 = 5070602400912917605986812821504 from rfl, show 2251799813685248 ^ 3 = 11417981541647679048466287755595961091061972992 from rfl, show 2251799813685248 ^ 4 = 25711008708143844408671393477458601640355247900524685364822016 from rfl]
 omega
theorem JM (g : Nat → Nat) : qc g 5 = (val g + 19) / 57896044618658097711785492504343953926634992332820282019728792003956564819968 := by
 simp only [qc, val]
 omega
theorem IP (g : Nat → Nat) (q : Nat) : val (fun j => (g j + rc g q j) % 2251799813685248) + 57896044618658097711785492504343953926634992332820282019728792003956564819968 * rc g q 5 = val g + 19 * q := by
 simp only [rc, val]
 omega
theorem JT {h : Nat → Nat} (hl : ∀ j, j < 5 → h j < 2251799813685248) : val h < 57896044618658097711785492504343953926634992332820282019728792003956564819968 := by
 have h0 := hl 0 (by omega); have h1 := hl 1 (by omega); have h2 := hl 2 (by omega); have h3 := hl 3 (by omega); have h4 := hl 4 (by omega)
 unfold val
 omega
theorem Bw {f g : Nat → Nat} (hf : small f) (hg : g = carry (carry f)) (j : Nat) (hj : j < 5) : (g j + rc g (qc g 5) j) % 2251799813685248 = eE (val f % p) j := by
 have hs := fM (f := f) (fun j hj => by have := hf j hj; omega)
 have hb : ∀ j, j < 5 → g j < 2251799813685248 + 19 := fun j hj => by rw [hg]; exact rp hs j hj
 have hvg : val g % p = val f % p := by rw [hg, dY, dY]
 have hq := JM g
 have hr := IP g (qc g 5)
 have hlt := JT (h := fun j => (g j + rc g (qc g 5) j) % 2251799813685248) (fun j _ => Nat.mod_lt _ (by omega))
 have hgv : val g < 2 * p - 100 := by
  have h0 := hb 0 (by omega); have h1 := hb 1 (by omega); have h2 := hb 2 (by omega); have h3 := hb 3 (by omega); have h4 := hb 4 (by omega)
  unfold val p
  omega
 have key : val (fun j => (g j + rc g (qc g 5) j) % 2251799813685248) = val g % p := by
  unfold p at hgv ⊢
  have hc : qc g 5 = 0 ∨ qc g 5 = 1 := by omega
  rcases hc with hc | hc
  ·rw [hc] at hr hq hlt ⊢
   rw [Nat.mod_eq_of_lt (by omega)]
   omega
  ·rw [hc] at hr hq hlt ⊢
   rw [Nat.mod_eq_sub_mod (by omega), Nat.mod_eq_of_lt (by omega)]
   omega
 rw [← hvg, ← key]
 exact (CD (fun j => (g j + rc g (qc g 5) j) % 2251799813685248) (fun j _ => Nat.mod_lt _ (by omega)) j hj).symm
def vV (f g : Nat → Nat) (t r : Nat) : Nat := if (t / 5 + t % 5) % 5 = r then f (t / 5) * (if 5 ≤ t / 5 + t % 5 then g (t % 5) * 19 else g (t % 5)) else 0
def acc (f g : Nat → Nat) : Nat → Nat → Nat
 | 0, _ => 0
 | t + 1, r => acc f g t r + vV f g t r
theorem CX (f0 f1 f2 f3 f4 g0 g1 g2 g3 g4 : Nat) :
  ∃ k, (f0 + 2251799813685248 * f1 + 5070602400912917605986812821504 * f2 + 11417981541647679048466287755595961091061972992 * f3 + 25711008708143844408671393477458601640355247900524685364822016 * f4) * (g0 + 2251799813685248 * g1 + 5070602400912917605986812821504 * g2 + 11417981541647679048466287755595961091061972992 * g3 + 25711008708143844408671393477458601640355247900524685364822016 * g4) = (f0 * g0 + 19 * (f1 * g4) + 19 * (f2 * g3) + 19 * (f3 * g2) + 19 * (f4 * g1)) + 2251799813685248 * (f0 * g1 + f1 * g0 + 19 * (f2 * g4) + 19 * (f3 * g3) + 19 * (f4 * g2)) + 5070602400912917605986812821504 * (f0 * g2 + f1 * g1 + f2 * g0 + 19 * (f3 * g4) + 19 * (f4 * g3)) + 11417981541647679048466287755595961091061972992 * (f0 * g3 + f1 * g2 + f2 * g1 + f3 * g0 + 19 * (f4 * g4)) + 25711008708143844408671393477458601640355247900524685364822016 * (f0 * g4 + f1 * g3 + f2 * g2 + f3 * g1 + f4 * g0) + 57896044618658097711785492504343953926634992332820282019728792003956564819949 * k := by
 refine ⟨((f1 * g4) + (f2 * g3) + 2251799813685248 * (f2 * g4) + (f3 * g2) + 2251799813685248 * (f3 * g3) + 5070602400912917605986812821504 * (f3 * g4) + (f4 * g1) + 2251799813685248 * (f4 * g2) + 5070602400912917605986812821504 * (f4 * g3) + 11417981541647679048466287755595961091061972992 * (f4 * g4)), ?_⟩
 have Vl : f0 * (2251799813685248 * g1) = 2251799813685248 * (f0 * g1) := Nat.mul_left_comm _ _ _
 have Vm : f0 * (5070602400912917605986812821504 * g2) = 5070602400912917605986812821504 * (f0 * g2) := Nat.mul_left_comm _ _ _
 have Vn : f0 * (11417981541647679048466287755595961091061972992 * g3) = 11417981541647679048466287755595961091061972992 * (f0 * g3) := Nat.mul_left_comm _ _ _
 have Vo : f0 * (25711008708143844408671393477458601640355247900524685364822016 * g4) = 25711008708143844408671393477458601640355247900524685364822016 * (f0 * g4) := Nat.mul_left_comm _ _ _
 have Vp : 2251799813685248 * f1 * g0 = 2251799813685248 * (f1 * g0) := Nat.mul_assoc _ _ _
 have Vq : 2251799813685248 * f1 * (2251799813685248 * g1) = 5070602400912917605986812821504 * (f1 * g1) := by rw [Nat.mul_mul_mul_comm]
 have Vr : 2251799813685248 * f1 * (5070602400912917605986812821504 * g2) = 11417981541647679048466287755595961091061972992 * (f1 * g2) := by rw [Nat.mul_mul_mul_comm]
 have Vs : 2251799813685248 * f1 * (11417981541647679048466287755595961091061972992 * g3) = 25711008708143844408671393477458601640355247900524685364822016 * (f1 * g3) := by rw [Nat.mul_mul_mul_comm]
 have Vt : 2251799813685248 * f1 * (25711008708143844408671393477458601640355247900524685364822016 * g4) = 57896044618658097711785492504343953926634992332820282019728792003956564819968 * (f1 * g4) := by rw [Nat.mul_mul_mul_comm]
 have Vu : 5070602400912917605986812821504 * f2 * g0 = 5070602400912917605986812821504 * (f2 * g0) := Nat.mul_assoc _ _ _
 have Vv : 5070602400912917605986812821504 * f2 * (2251799813685248 * g1) = 11417981541647679048466287755595961091061972992 * (f2 * g1) := by rw [Nat.mul_mul_mul_comm]
 have Vw : 5070602400912917605986812821504 * f2 * (5070602400912917605986812821504 * g2) = 25711008708143844408671393477458601640355247900524685364822016 * (f2 * g2) := by rw [Nat.mul_mul_mul_comm]
 have Vx : 5070602400912917605986812821504 * f2 * (11417981541647679048466287755595961091061972992 * g3) = 57896044618658097711785492504343953926634992332820282019728792003956564819968 * (f2 * g3) := by rw [Nat.mul_mul_mul_comm]
 have Vy : 5070602400912917605986812821504 * f2 * (25711008708143844408671393477458601640355247900524685364822016 * g4) = 130370302485407109521180524058200202307293977194619920040712988758680403184853549195737432064 * (f2 * g4) := by rw [Nat.mul_mul_mul_comm]
 have Vz : 11417981541647679048466287755595961091061972992 * f3 * g0 = 11417981541647679048466287755595961091061972992 * (f3 * g0) := Nat.mul_assoc _ _ _
 have VA : 11417981541647679048466287755595961091061972992 * f3 * (2251799813685248 * g1) = 25711008708143844408671393477458601640355247900524685364822016 * (f3 * g1) := by rw [Nat.mul_mul_mul_comm]
 have VB : 11417981541647679048466287755595961091061972992 * f3 * (5070602400912917605986812821504 * g2) = 57896044618658097711785492504343953926634992332820282019728792003956564819968 * (f3 * g2) := by rw [Nat.mul_mul_mul_comm]
 have VC : 11417981541647679048466287755595961091061972992 * f3 * (11417981541647679048466287755595961091061972992 * g3) = 130370302485407109521180524058200202307293977194619920040712988758680403184853549195737432064 * (f3 * g3) := by rw [Nat.mul_mul_mul_comm]
 have VD : 11417981541647679048466287755595961091061972992 * f3 * (25711008708143844408671393477458601640355247900524685364822016 * g4) = 293567822846729153486185074598667128421960318613539983838411371441526128139326055432962374798096087878991872 * (f3 * g4) := by rw [Nat.mul_mul_mul_comm]
 have VE : 25711008708143844408671393477458601640355247900524685364822016 * f4 * g0 = 25711008708143844408671393477458601640355247900524685364822016 * (f4 * g0) := Nat.mul_assoc _ _ _
 have VF : 25711008708143844408671393477458601640355247900524685364822016 * f4 * (2251799813685248 * g1) = 57896044618658097711785492504343953926634992332820282019728792003956564819968 * (f4 * g1) := by rw [Nat.mul_mul_mul_comm]
 have VG : 25711008708143844408671393477458601640355247900524685364822016 * f4 * (5070602400912917605986812821504 * g2) = 130370302485407109521180524058200202307293977194619920040712988758680403184853549195737432064 * (f4 * g2) := by rw [Nat.mul_mul_mul_comm]
 have VH : 25711008708143844408671393477458601640355247900524685364822016 * f4 * (11417981541647679048466287755595961091061972992 * g3) = 293567822846729153486185074598667128421960318613539983838411371441526128139326055432962374798096087878991872 * (f4 * g3) := by rw [Nat.mul_mul_mul_comm]
 have VI : 25711008708143844408671393477458601640355247900524685364822016 * f4 * (25711008708143844408671393477458601640355247900524685364822016 * g4) = 661055968790248598951915308032771039828404682964281219284648795274405791236311345825189210439715284847591212025023358304256 * (f4 * g4) := by rw [Nat.mul_mul_mul_comm]
 rw [Nat.mul_add, Nat.mul_add, Nat.mul_add, Nat.mul_add]
 simp only [Nat.add_mul]
 rw [Vl, Vm, Vn, Vo, Vp, Vq, Vr, Vs, Vt, Vu, Vv, Vw, Vx, Vy, Vz, VA, VB, VC, VD, VE, VF, VG, VH, VI]
 omega
theorem Ci {f g : Nat → Nat} (hf : small f) (hg : small g) (t r : Nat) (ht : t ≤ 25) : acc f g t r ≤ t * 385365782469381738054997774434304 := by
  induction t with
  | zero => simp [acc]
  | succ t ih =>
    have h1 := ih (by omega)
    have h2 : vV f g t r ≤ 385365782469381738054997774434304 := by
      unfold vV
      split
      · have Vl := hf (t / 5) (by omega)
        have Vm := hg (t % 5) (by omega)
        have : f (t / 5) * (if 5 ≤ t / 5 + t % 5 then g (t % 5) * 19 else g (t % 5)) ≤ 4503599627370496 * (4503599627370496 * 19) := Nat.mul_le_mul (by omega) (by split <;> omega)
        omega
      · omega
    rw [acc]
    omega
theorem Ge (f g : Nat → Nat) : ∃ k, val f * val g = val (acc f g 25) + p * k := by
 obtain ⟨k, hk⟩ := CX (f 0) (f 1) (f 2) (f 3) (f 4) (g 0) (g 1) (g 2) (g 3) (g 4)
 refine ⟨k, hk.trans ?_⟩
 congr 1
 simp only [val, acc, vV]
 simp
 have e : ∀ x y : Nat, x * (y * 19) = 19 * (x * y) := fun x y => by rw [← Nat.mul_assoc, Nat.mul_comm]
 simp only [e]
theorem Da {f g : Nat → Nat} (hf : small f) (hg : small g) : acc f g 25 4 ≤ 101412048018258352119736256430080 := by
 have e : acc f g 25 4 = f 0 * g 4 + f 1 * g 3 + f 2 * g 2 + f 3 * g 1 + f 4 * g 0 := by
  simp [acc, vV]
 have h : ∀ i k, i < 5 → k < 5 → f i * g k ≤ 4503599627370496 * 4503599627370496 := fun i k hi hk => Nat.mul_le_mul (by have := hf i hi; omega) (by have := hg k hk; omega)
 have h0 := h 0 4 (by omega) (by omega); have h1 := h 1 3 (by omega) (by omega); have h2 := h 2 2 (by omega) (by omega); have h3 := h 3 1 (by omega) (by omega); have h4 := h 4 0 (by omega) (by omega)
 omega
def fr (s : Nat → Nat) : Nat → Nat
 | 0 => 0
 | i + 1 => (s i + fr s i) / 2251799813685248
theorem Iy {s : Nat → Nat} (h : ∀ j, j < 5 → s j ≤ 9634144561734543451374944360857600) (i : Nat) (hi : i ≤ 5) : fr s i ≤ 4278419646001973101 := by
 induction i with
 | zero => exact Nat.zero_le _
 | succ i ih => have := ih (by omega); have := h i (by omega); rw [fr]; omega
theorem El {s : Nat → Nat} (h : ∀ j, j < 5 → s j ≤ 9634144561734543451374944360857600) (h4 : s 4 ≤ 101412048018258352119736256430080) : fr s 5 ≤ 45035996273706861 := by
 have := Iy h 4 (by omega)
 rw [fr]; omega
theorem ID (s : Nat → Nat) : val (fun j => (s j + fr s j) % 2251799813685248) + 57896044618658097711785492504343953926634992332820282019728792003956564819968 * fr s 5 = val s := by
 simp only [fr, val]
 omega
theorem Gi (s : Nat → Nat) : val (fun j => (s j + fr s j) % 2251799813685248 + (if j = 0 then fr s 5 * 19 else 0)) + p * fr s 5 = val s := by
 have h := ID s
 simp only [val, p] at *
 simp
 omega
end Fp
end
section
namespace Fp
def num : List UInt8 → Nat
 | [] => 0
 | b :: bs => b.toNat + 256 * num bs
theorem m6 : ∀ (l : List UInt8), num l < 256 ^ l.length
  | [] => by simp [num]
  | b :: l => by
    have := m6 l
    have := b.toNat_lt
    simp only [num, List.length_cons, Nat.pow_succ]
    omega
theorem gy : ∀ (a b : List UInt8), num (a ++ b) = num a + 256 ^ a.length * num b
  | [], b => by simp [num]
  | d :: a, b => by
    simp only [List.cons_append, num, gy a b, List.length_cons, Nat.pow_succ]
    rw [Nat.mul_add, Nat.mul_comm (256 ^ a.length) 256, Nat.mul_assoc]
    omega
theorem zY (n : Nat) : num (List.replicate n 0) = 0 := by
 induction n with
 | zero => rfl
 | succ n ih => rw [List.replicate_succ, num, ih]; rfl
theorem oW (l : List UInt8) (k : Nat) (hk : k ≤ l.length) : num (l.drop k) = num l / 256 ^ k := by
 have h := gy (l.take k) (l.drop k)
 rw [List.take_append_drop, List.length_take, Nat.min_eq_left hk] at h
 have hl := m6 (l.take k)
 rw [List.length_take, Nat.min_eq_left hk] at hl
 rw [h, Nat.add_mul_div_left _ _ (Nat.pow_pos (by omega)), Nat.div_eq_of_lt hl, Nat.zero_add]
theorem uM (l : List UInt8) (k : Nat) (hk : k ≤ l.length) : num (l.take k) = num l % 256 ^ k := by
 have h := gy (l.take k) (l.drop k)
 rw [List.take_append_drop, List.length_take, Nat.min_eq_left hk] at h
 have hl := m6 (l.take k)
 rw [List.length_take, Nat.min_eq_left hk] at hl
 rw [h, Nat.add_mul_mod_self_left, Nat.mod_eq_of_lt hl]
def word (X : List UInt8) (o : Nat) : Nat := num ((X.drop o).take 8)
theorem jP (X : List UInt8) (o : Nat) (h : o + 8 ≤ X.length) : word X o = num X / 256 ^ o % 18446744073709551616 := by
 unfold word
 rw [uM _ _ (by simp; omega), oW _ _ (by omega)]
theorem word_lt (X : List UInt8) (o : Nat) (h : o + 8 ≤ X.length) : word X o < 18446744073709551616 := by
 rw [jP X o h]; exact Nat.mod_lt _ (by omega)
theorem yM (X : List UInt8) (o j : Nat) (hj : j < 8) (h : o + 8 ≤ X.length) : num ((X.drop (o + j)).take (8 - j)) = (X.getD (o + j) 0).toNat + 256 * num ((X.drop (o + (j + 1))).take (8 - (j + 1))) := by
 have hl : o + j < X.length := by omega
 rw [List.drop_eq_getElem_cons hl, show 8 - j = (8 - (j + 1)) + 1 by omega, List.take_succ_cons, num]
 congr 2
 rw [List.getD_eq_getElem?_getD, List.getElem?_eq_getElem hl]; rfl
theorem Fh (X : List UInt8) (o j : Nat) (hj : j ≤ 8) : num ((X.drop (o + j)).take (8 - j)) < 256 ^ (8 - j) := by
 have h := m6 ((X.drop (o + j)).take (8 - j))
 have h2 : ((X.drop (o + j)).take (8 - j)).length ≤ 8 - j := by simp; omega
 exact Nat.lt_of_lt_of_le h (Nat.pow_le_pow_right (by omega) h2)
def pad (b : List UInt8) : List UInt8 := b.take 32 ++ List.replicate (32 - (b.take 32).length) 0
theorem cG (b : List UInt8) : (pad b).length = 32 := by
 unfold pad; simp; omega
theorem FR (b : List UInt8) : num (pad b) = num (b.take 32) := by
 unfold pad; rw [gy, zY, Nat.mul_zero, Nat.add_zero]
def Mv (b : List UInt8) : Nat := num (b.take 32) % 57896044618658097711785492504343953926634992332820282019728792003956564819968 % p
def vR (X : List UInt8) (j : Nat) : Nat := if j = 0 then word X 0 % 2251799813685248 else if j = 1 then word X 6 / 8 % 2251799813685248 else if j = 2 then word X 12 / 64 % 2251799813685248 else if j = 3 then word X 19 / 2 % 2251799813685248 else word X 24 / 4096 % 2251799813685248
theorem Ju (X : List UInt8) (j : Nat) : vR X j < 2251799813685248 := by
 unfold vR
 split
 ·exact Nat.mod_lt _ (by omega)
 split
 ·exact Nat.mod_lt _ (by omega)
 split
 ·exact Nat.mod_lt _ (by omega)
 split
 ·exact Nat.mod_lt _ (by omega)
 ·exact Nat.mod_lt _ (by omega)
theorem Ek (X : List UInt8) (h : X.length = 32) : val (vR X) = num X % 57896044618658097711785492504343953926634992332820282019728792003956564819968 := by
 have h0 := jP X 0 (by omega); have h1 := jP X 6 (by omega); have h2 := jP X 12 (by omega); have h3 := jP X 19 (by omega); have h4 := jP X 24 (by omega)
 rw [show (256 : Nat) ^ 0 = 1 from rfl] at h0
 rw [show (256 : Nat) ^ 6 = 281474976710656 from rfl] at h1
 rw [show (256 : Nat) ^ 12 = 79228162514264337593543950336 from rfl] at h2
 rw [show (256 : Nat) ^ 19 = 5708990770823839524233143877797980545530986496 from rfl] at h3
 rw [show (256 : Nat) ^ 24 = 6277101735386680763835789423207666416102355444464034512896 from rfl] at h4
 have e0 : vR X 0 = num X % 2251799813685248 := by unfold vR; rw [if_pos rfl, h0]; omega
 have e1 : vR X 1 = num X / 2251799813685248 % 2251799813685248 := by unfold vR; rw [if_neg (by omega), if_pos rfl, h1]; omega
 have e2 : vR X 2 = num X / 5070602400912917605986812821504 % 2251799813685248 := by unfold vR; rw [if_neg (by omega), if_neg (by omega), if_pos rfl, h2]; omega
 have e3 : vR X 3 = num X / 11417981541647679048466287755595961091061972992 % 2251799813685248 := by unfold vR; rw [if_neg (by omega), if_neg (by omega), if_neg (by omega), if_pos rfl, h3]; omega
 have e4 : vR X 4 = num X / 25711008708143844408671393477458601640355247900524685364822016 % 2251799813685248 := by unfold vR; rw [if_neg (by omega), if_neg (by omega), if_neg (by omega), if_neg (by omega), h4]; omega
 unfold val
 rw [e0, e1, e2, e3, e4]
 omega
def le (n x : Nat) : List UInt8 := (List.range n).map fun j => UInt8.ofNat (x / 256 ^ j % 256)
theorem cH (n x : Nat) : (le n x).length = n := by simp [le]
theorem jU (T : Nat) : 2 ^ T = 2 ^ (T % 8) * 256 ^ (T / 8) := by
 rw [show (256 : Nat) = 2 ^ 8 from rfl, ← Nat.pow_mul, ← Nat.pow_add]
 congr 1
 omega
theorem yq {x T : Nat} (hx : x < 2 ^ T) : x / 256 ^ (T / 8) < 2 ^ (T % 8) := by
 rw [jU] at hx
 exact Nat.div_lt_of_lt_mul (by rw [Nat.mul_comm]; exact hx)
theorem ye (T : Nat) : 2 ^ (T % 8) ≤ 128 := by
 have h := Nat.pow_le_pow_right (n := 2) (by omega) (show T % 8 ≤ 7 by omega)
 exact h
theorem AW {x T b : Nat} (j : Nat) (hx : x < 2 ^ T) (hb : b ≤ 1) : (if j = T / 8 then x / 256 ^ (T / 8) + b * 2 ^ (T % 8) else x / 256 ^ j % 256) = (x + b * 2 ^ T) / 256 ^ j % 256 := by
 have h1 := yq hx
 have h2 := ye T
 by_cases h : j = T / 8
 ·subst h
  rw [if_pos rfl]
  have e : x + b * 2 ^ T = x + 256 ^ (T / 8) * (b * 2 ^ (T % 8)) := by
   rw [jU T, ← Nat.mul_assoc, Nat.mul_comm (256 ^ (T / 8))]
  rw [e, Nat.add_mul_div_left _ _ (Nat.pow_pos (by omega))]
  have h3 : b * 2 ^ (T % 8) ≤ 1 * 2 ^ (T % 8) := Nat.mul_le_mul_right _ hb
  exact (Nat.mod_eq_of_lt (by omega)).symm
 ·rw [if_neg h]
  rcases Nat.lt_or_ge j (T / 8) with h3 | h3
  ·obtain ⟨d, hd⟩ : ∃ d, T / 8 = j + 1 + d := ⟨T / 8 - (j + 1), by omega⟩
   have e : 2 ^ T = 256 ^ j * (256 * (2 ^ (T % 8) * 256 ^ d)) := by
    rw [jU T, hd, Nat.pow_add, Nat.pow_succ]
    simp only [Nat.mul_assoc, Nat.mul_comm, Nat.mul_left_comm]
   rw [e, ← Nat.mul_assoc b, Nat.mul_comm b, Nat.mul_assoc, Nat.add_mul_div_left _ _ (Nat.pow_pos (by omega)), ← Nat.mul_assoc b, Nat.mul_comm b, Nat.mul_assoc, Nat.add_mul_mod_self_left]
  ·have h4 : 2 ^ (T + 1) ≤ 256 ^ j := by
    rw [show (256 : Nat) = 2 ^ 8 from rfl, ← Nat.pow_mul]
    exact Nat.pow_le_pow_right (by omega) (by omega)
   have h5 : x + b * 2 ^ T < 256 ^ j := by
    have : b * 2 ^ T ≤ 1 * 2 ^ T := Nat.mul_le_mul_right _ hb
    rw [Nat.pow_succ] at h4
    omega
   rw [Nat.div_eq_of_lt (by omega), Nat.div_eq_of_lt h5]
theorem CQ (a i k : Nat) (hk : k < 51) : eE a i / 2 ^ k % 2 = a / 2 ^ (51 * i + k) % 2 := by
 unfold eE
 rw [show (2251799813685248 : Nat) = 2 ^ 51 from rfl, show (2 : Nat) ^ 51 = 2 ^ k * 2 ^ (51 - k) from by rw [← Nat.pow_add]; congr 1; omega, Nat.mod_mul_right_div_self, ← Nat.pow_add, show k + (51 - k) = 51 by omega, ← Nat.pow_mul, Nat.div_div_eq_div_mul, ← Nat.pow_add]
 exact Nat.mod_mod_of_dvd _ ⟨2 ^ (51 - k - 1), by rw [← Nat.pow_succ']; congr 1; omega⟩
theorem wP (n x : Nat) (h : x < 256 ^ n) : num (le n x) = x := by
  induction n generalizing x with
  | zero => simp at h; subst h; rfl
  | succ n ih =>
    have e : le (n + 1) x = UInt8.ofNat (x % 256) :: le n (x / 256) := by
      unfold le
      rw [List.range_succ_eq_map, List.map_cons, List.map_map]
      congr 1
      · simp
      · apply List.map_congr_left
        intro _ _
        simp only [Function.comp_apply]
        rw [Nat.div_div_eq_div_mul, Nat.pow_succ, Nat.mul_comm]
    rw [e, num, ih _ (by rw [Nat.pow_succ] at h; exact Nat.div_lt_of_lt_mul (by omega)), UInt8.toNat_ofNat']
    omega
end Fp
end
end Go.Proofs.YtgfafidlkldeaaaGreat
