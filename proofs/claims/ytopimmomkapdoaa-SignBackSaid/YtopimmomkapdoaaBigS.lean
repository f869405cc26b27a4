/- Whole numbers as digits of base 2^15, the lowest first: plain functions on lists. No program in sight. -/
namespace Go.Proofs.Ytopimmomkapdoaa
namespace Big
def val : List Nat → Nat
  | [] => 0
  | d :: ds => d + 32768 * val ds
def ok (ds : List Nat) : Prop := ∀ d ∈ ds, d < 32768
def digsF : Nat → Nat → List Nat
  | 0, _ => []
  | f + 1, n => if n = 0 then [] else (n % 32768) :: digsF f (n / 32768)
/-- The digits of a number, without noughts at the end. -/
def digs (n : Nat) : List Nat := digsF n n
theorem digsF_enough : ∀ (f n : Nat), n ≤ f → digsF f n = digs n := by
  intro f
  induction f using Nat.strongRecOn with
  | _ f ih =>
    intro n hn
    match f, n, hn with
    | 0, 0, _ => rfl
    | f + 1, 0, _ => simp [digsF, digs]
    | f + 1, n + 1, hn =>
      unfold digs
      simp only [digsF, Nat.succ_ne_zero, if_false]
      have h1 : (n + 1) / 32768 ≤ n := by omega
      rw [ih f (by omega) _ (by omega)]
      congr 1
      by_cases hfn : n = f
      · subst hfn; exact (ih n (by omega) _ h1).symm
      · exact (ih n (by omega) _ h1).symm
theorem digs_zero : digs 0 = [] := rfl
theorem digs_pos {n : Nat} (h : 0 < n) : digs n = (n % 32768) :: digs (n / 32768) := by
  match n, h with
  | n + 1, _ =>
    show digsF (n + 1) (n + 1) = _
    simp only [digsF, Nat.succ_ne_zero, if_false]
    rw [digsF_enough n _ (by omega)]
theorem digs_ind {p : Nat → Prop} (h0 : p 0) (h : ∀ n, 0 < n → p (n / 32768) → p n) (n : Nat) : p n := by
  induction n using Nat.strongRecOn with
  | _ n ih =>
    by_cases hn : n = 0
    · subst hn; exact h0
    · exact h n (by omega) (ih _ (by omega))
theorem val_digs (n : Nat) : val (digs n) = n := by
  induction n using digs_ind with
  | h0 => rfl
  | h n hn ih => rw [digs_pos hn, val, ih]; omega
theorem ok_digs (n : Nat) : ok (digs n) := by
  induction n using digs_ind with
  | h0 => intro d hd; cases hd
  | h n hn ih =>
    rw [digs_pos hn]
    intro d hd
    rcases List.mem_cons.1 hd with rfl | hd
    · omega
    · exact ih d hd
theorem ok_cons {d : Nat} {ds : List Nat} : ok (d :: ds) ↔ d < 32768 ∧ ok ds := by
  constructor
  · intro h; exact ⟨h d (by simp), fun x hx => h x (by simp [hx])⟩
  · rintro ⟨h1, h2⟩ x hx
    rcases List.mem_cons.1 hx with rfl | hx
    · exact h1
    · exact h2 x hx
theorem ok_append {a b : List Nat} (ha : ok a) (hb : ok b) : ok (a ++ b) := fun d hd => (List.mem_append.1 hd).elim (ha d) (hb d)
theorem ok_take {a : List Nat} (ha : ok a) (k : Nat) : ok (a.take k) := fun d hd => ha d (List.mem_of_mem_take hd)
theorem ok_drop {a : List Nat} (ha : ok a) (k : Nat) : ok (a.drop k) := fun d hd => ha d (List.mem_of_mem_drop hd)
theorem ok_one {d : Nat} (h : d < 32768) : ok [d] := fun x hx => by simp at hx; omega
theorem ok_get {a : List Nat} (ha : ok a) (i : Nat) : a.getD i 0 < 32768 := by
  rw [List.getD_eq_getElem?_getD]
  cases h : a[i]? with
  | none => simp
  | some d => exact ha d (List.mem_of_getElem? h)
theorem getD_over {l : List Nat} {i : Nat} (h : l.length ≤ i) : l.getD i 0 = 0 := by
  rw [List.getD_eq_getElem?_getD, List.getElem?_eq_none h]; rfl
theorem zeros_get (n i : Nat) : (List.replicate n 0).getD i 0 = 0 := by
  rw [List.getD_eq_getElem?_getD, List.getElem?_replicate]; split <;> rfl
theorem getD_set_ne (l : List Nat) (i j x : Nat) (h : i ≠ j) : (l.set i x).getD j 0 = l.getD j 0 := by
  rw [List.getD_eq_getElem?_getD, List.getD_eq_getElem?_getD, List.getElem?_set_ne h]
theorem digs_ne {n : Nat} (h : 0 < n) : digs n ≠ [] := by rw [digs_pos h]; simp
/-- A list of digits whose last is none: they are its number's. -/
theorem canon : ∀ (l : List Nat), ok l → (∀ h : l ≠ [], l.getLast h ≠ 0) → digs (val l) = l
  | [], _, _ => rfl
  | d :: ds, hok, hl => by
    obtain ⟨h1, h2⟩ := ok_cons.1 hok
    by_cases hds : ds = []
    · subst hds
      have hd : d ≠ 0 := by simpa using hl (by simp)
      rw [val, val, digs_pos (by omega), show (d + 32768 * 0) % 32768 = d by omega, show (d + 32768 * 0) / 32768 = 0 by omega]
      rfl
    · have ih := canon ds h2 (fun h => by have := hl (by simp); rwa [List.getLast_cons h] at this)
      have hv : 0 < val ds := by
        rcases Nat.eq_zero_or_pos (val ds) with h | h
        · rw [h] at ih; exact absurd ih.symm hds
        · exact h
      rw [val, digs_pos (by omega), show (d + 32768 * val ds) % 32768 = d by omega, show (d + 32768 * val ds) / 32768 = val ds by omega, ih]
theorem digs_last (n : Nat) (h : digs n ≠ []) : (digs n).getLast h ≠ 0 := by
  induction n using digs_ind with
  | h0 => exact absurd rfl h
  | h n hn ih =>
    by_cases hq : n / 32768 = 0
    · have e : digs n = [n % 32768] := by rw [digs_pos hn, hq]; rfl
      simp only [e, List.getLast_singleton]
      omega
    · have hne := digs_ne (Nat.pos_of_ne_zero hq)
      have e := digs_pos hn
      have := ih hne
      simp only [e, List.getLast_cons hne]
      exact this
theorem val_append : ∀ (a b : List Nat), val (a ++ b) = val a + 32768 ^ a.length * val b
  | [], b => by simp [val]
  | d :: a, b => by
    simp only [List.cons_append, val, val_append a b, List.length_cons, Nat.pow_succ]
    rw [Nat.mul_add, Nat.mul_comm (32768 ^ a.length) 32768, Nat.mul_assoc]
    omega
theorem val_lt : ∀ (a : List Nat), ok a → val a < 32768 ^ a.length
  | [], _ => by simp [val]
  | d :: a, h => by
    obtain ⟨h1, h2⟩ := ok_cons.1 h
    have := val_lt a h2
    simp only [val, List.length_cons, Nat.pow_succ]
    omega
theorem val_take (a : List Nat) (k : Nat) : val a = val (a.take k) + 32768 ^ (a.take k).length * val (a.drop k) := by
  rw [← val_append, List.take_append_drop]
theorem val_take_succ (a : List Nat) (k : Nat) : val (a.take (k + 1)) = val (a.take k) + a.getD k 0 * 32768 ^ k := by
  rw [List.getD_eq_getElem?_getD]
  by_cases h : k < a.length
  · rw [List.take_succ_eq_append_getElem h, val_append]
    have hl : (a.take k).length = k := by simp; omega
    rw [hl]
    simp [val, h, Nat.mul_comm]
  · rw [List.take_of_length_le (by omega), List.take_of_length_le (by omega), List.getElem?_eq_none (by omega)]
    simp
theorem val_drop (a : List Nat) (k : Nat) (h : k < a.length) : val (a.drop k) = a.getD k 0 + 32768 * val (a.drop (k + 1)) := by
  rw [List.drop_eq_getElem_cons h, val]
  simp [List.getD_eq_getElem?_getD, h]
theorem val_set : ∀ (l : List Nat) (i x : Nat), i < l.length → val (l.set i x) + l.getD i 0 * 32768 ^ i = val l + x * 32768 ^ i
  | [], i, x, h => by cases h
  | d :: l, 0, x, _ => by simp [val]; omega
  | d :: l, i + 1, x, h => by
    have ih := val_set l i x (by simpa using h)
    simp only [List.set_cons_succ, val, List.getD_cons_succ, Nat.pow_succ]
    have e1 : l.getD i 0 * (32768 ^ i * 32768) = 32768 * (l.getD i 0 * 32768 ^ i) := by rw [← Nat.mul_assoc, Nat.mul_comm]
    have e2 : x * (32768 ^ i * 32768) = 32768 * (x * 32768 ^ i) := by rw [← Nat.mul_assoc, Nat.mul_comm]
    rw [e1, e2]
    omega
theorem ok_set {l : List Nat} (h : ok l) (i x : Nat) (hx : x < 32768) : ok (l.set i x) := fun d hd => by
  rcases List.mem_or_eq_of_mem_set hd with h1 | h1
  · exact h d h1
  · omega
theorem val_zeros (n : Nat) : val (List.replicate n 0) = 0 := by
  induction n with
  | zero => rfl
  | succ n ih => rw [List.replicate_succ, val, ih]
theorem ok_zeros (n : Nat) : ok (List.replicate n 0) := fun d hd => by rw [List.eq_of_mem_replicate hd]; omega
theorem digs_length_le (n k : Nat) (h : n < 32768 ^ k) : (digs n).length ≤ k := by
  rcases Nat.lt_or_ge k (digs n).length with hlt | hge
  · exfalso
    have hne : digs n ≠ [] := by intro e; rw [e] at hlt; cases hlt
    have hl := digs_last n hne
    have hv := val_digs n
    have hsp : digs n = (digs n).dropLast ++ [(digs n).getLast hne] := (List.dropLast_concat_getLast hne).symm
    rw [hsp, val_append] at hv
    have hlen : (digs n).dropLast.length = (digs n).length - 1 := by simp
    rw [hlen] at hv
    simp only [val] at hv
    have h1 : 32768 ^ k ≤ 32768 ^ ((digs n).length - 1) := Nat.pow_le_pow_right (by omega) (by omega)
    have h2 : 32768 ^ ((digs n).length - 1) * 1 ≤ 32768 ^ ((digs n).length - 1) * ((digs n).getLast hne + 32768 * 0) := Nat.mul_le_mul_left _ (by omega)
    omega
  · exact hge
theorem lt_pow_length (n : Nat) : n < 32768 ^ (digs n).length := by
  have := val_lt _ (ok_digs n)
  rwa [val_digs] at this
theorem length_lt {a b : Nat} (h : (digs a).length < (digs b).length) : a < b := by
  rcases Nat.lt_or_ge a b with h1 | h1
  · exact h1
  · exfalso
    have h2 := digs_length_le b (digs a).length (Nat.lt_of_le_of_lt h1 (lt_pow_length a))
    omega
theorem length_le {a b : Nat} (h : a ≤ b) : (digs a).length ≤ (digs b).length := digs_length_le a _ (Nat.lt_of_le_of_lt h (lt_pow_length b))
theorem digs_inj {a b : Nat} (h : digs a = digs b) : a = b := by rw [← val_digs a, h, val_digs]
/-- Compared from the top: the first unlike digit decides. -/
theorem lt_of_digit {a b : List Nat} (ha : ok a) (hb : ok b) (i : Nat) (hia : i < a.length) (hib : i < b.length) (he : a.drop (i + 1) = b.drop (i + 1)) (hl : a.length = b.length) (hlt : a.getD i 0 < b.getD i 0) : val a < val b := by
  rw [val_take a i, val_take b i, val_drop a i hia, val_drop b i hib, he]
  have h1 := val_lt _ (ok_take ha i)
  have h2 : (a.take i).length = i := by simp; omega
  have h3 : (b.take i).length = i := by simp; omega
  rw [h2] at h1 ⊢
  rw [h3]
  have h4 : 32768 ^ i * (a.getD i 0 + 32768 * val (b.drop (i + 1)) + 1) ≤ 32768 ^ i * (b.getD i 0 + 32768 * val (b.drop (i + 1))) := Nat.mul_le_mul_left _ (by omega)
  rw [Nat.mul_add, Nat.mul_one] at h4
  omega
theorem drop_step {l l' : List Nat} {j : Nat} (h : j < l.length) (h' : j < l'.length) (hd : l.drop (j + 1) = l'.drop (j + 1)) (he : l.getD j 0 = l'.getD j 0) : l.drop j = l'.drop j := by
  rw [List.drop_eq_getElem_cons h, List.drop_eq_getElem_cons h', hd]
  congr 1
  rw [List.getD_eq_getElem?_getD, List.getD_eq_getElem?_getD, List.getElem?_eq_getElem h, List.getElem?_eq_getElem h'] at he
  simpa using he
theorem dm (D P : Nat) : D % 32768 * P + D / 32768 * (P * 32768) = D * P := by
  rw [Nat.mul_comm P 32768, ← Nat.mul_assoc, ← Nat.add_mul]
  congr 1
  omega
theorem mul_step {l l0 o x y cr D P V y' : Nat} (hD : D = o + x * y + cr) (h : l + cr * P = l0 + x * V) (h' : y' + o * P = l + D % 32768 * P) : y' + D / 32768 * (P * 32768) = l0 + x * (V + y * P) := by
  have e := dm D P
  have e2 : D * P = o * P + x * y * P + cr * P := by rw [hD, Nat.add_mul, Nat.add_mul]
  rw [Nat.mul_add, ← Nat.mul_assoc x y P]
  omega
theorem add_step {l : List Nat} {x y k P ta tb : Nat} (hP : 32768 ^ l.length = P) (h : val l + k * P = ta + tb) : val (l ++ [(x + y + k) % 32768]) + (x + y + k) / 32768 * (P * 32768) = ta + x * P + (tb + y * P) := by
  have e := dm (x + y + k) P
  rw [Nat.add_mul, Nat.add_mul] at e
  rw [val_append, hP, val, val, Nat.mul_zero, Nat.add_zero, Nat.mul_comm P]
  omega
theorem sub_step {l : List Nat} {x y k K D P ta tb : Nat} (hP : 32768 ^ l.length = P) (h : ta + k * P = val l + tb) (hD : x + K * 32768 = D + y + k) : ta + x * P + K * (P * 32768) = val (l ++ [D]) + (tb + y * P) := by
  have e : (x + K * 32768) * P = (D + y + k) * P := by rw [hD]
  rw [Nat.add_mul, Nat.add_mul, Nat.add_mul] at e
  rw [val_append, hP, val, val, Nat.mul_zero, Nat.add_zero, Nat.mul_comm P 32768, Nat.mul_comm P D, ← Nat.mul_assoc]
  omega
theorem sub_end {l : List Nat} {a b k n : Nat} (hn : (digs a).length = n) (hl : l.length = n) (hok : ok l) (hb : b ≤ a) (h : val ((digs a).take n) + k * 32768 ^ n = val l + val ((digs b).take n)) : val l = a - b := by
  have h1 := length_le hb
  have h2 := val_lt l hok
  rw [List.take_of_length_le (by omega), List.take_of_length_le (by omega), val_digs, val_digs] at h
  rw [hl] at h2
  rcases Nat.eq_zero_or_pos k with rfl | hk
  · omega
  · have := Nat.mul_le_mul_right (32768 ^ n) hk
    omega
theorem pow_two (n : Nat) : digs (2 ^ n) = (List.replicate (n / 15 + 1) 0).set (n / 15) (2 ^ (n % 15)) := by
  have hlt : 2 ^ (n % 15) < 32768 := by
    have : n % 15 ≤ 14 := by omega
    have := Nat.pow_le_pow_right (n := 2) (by omega) this
    omega
  have hpos : 0 < 2 ^ (n % 15) := Nat.pow_pos (by omega)
  have hv := val_set (List.replicate (n / 15 + 1) 0) (n / 15) (2 ^ (n % 15)) (by simp)
  rw [val_zeros, show (List.replicate (n / 15 + 1) 0).getD (n / 15) 0 = 0 from by simp, Nat.zero_mul, Nat.zero_add, Nat.add_zero] at hv
  have e : 2 ^ n = 2 ^ (n % 15) * 32768 ^ (n / 15) := by
    rw [show (32768 : Nat) = 2 ^ 15 from rfl, ← Nat.pow_mul, ← Nat.pow_add]
    congr 1
    omega
  rw [e, ← hv]
  refine canon _ (ok_set (ok_zeros _) _ _ hlt) fun h => ?_
  rw [List.getLast_eq_getElem]
  simp only [List.length_set, List.length_replicate, Nat.add_sub_cancel, List.getElem_set_self]
  omega
theorem low_step (v j : Nat) (hj : j < 5) : ((v / 32768 ^ (j + 1) % 32768 ^ (5 - (j + 1)) % 18446744073709551616 * 32768) % 18446744073709551616 + v / 32768 ^ j % 32768) % 18446744073709551616 = v / 32768 ^ j % 32768 ^ (5 - j) % 18446744073709551616 := by
  rw [show 5 - j = 5 - (j + 1) + 1 from by omega, Nat.pow_succ 32768 (5 - (j + 1)), Nat.mul_comm (32768 ^ (5 - (j + 1))) 32768, Nat.mod_mul, Nat.div_div_eq_div_mul, ← Nat.pow_succ]
  generalize v / 32768 ^ (j + 1) % 32768 ^ (5 - (j + 1)) = f
  omega
theorem low_end (v : Nat) : v / 32768 ^ 0 % 32768 ^ (5 - 0) % 18446744073709551616 = v % 18446744073709551616 := by
  rw [Nat.pow_zero, Nat.div_one]
  exact Nat.mod_mod_of_dvd v ⟨2048, rfl⟩
theorem digit_eq (v i : Nat) : (digs v).getD i 0 = v / 32768 ^ i % 32768 := by
  induction i generalizing v with
  | zero =>
    rcases Nat.eq_zero_or_pos v with rfl | h
    · simp [digs_zero]
    · rw [digs_pos h]; simp
  | succ i ih =>
    rcases Nat.eq_zero_or_pos v with rfl | h
    · simp [digs_zero]
    · rw [digs_pos h, List.getD_cons_succ, ih, Nat.div_div_eq_div_mul, Nat.pow_succ, Nat.mul_comm]
/-- Without noughts at the end. -/
def trimmed (ds : List Nat) (k : Nat) : Prop := k ≤ ds.length ∧ val (ds.take k) = val ds
theorem trimmed_end {ds : List Nat} {k : Nat} (h : trimmed ds k) (hok : ok ds) (hl : k = 0 ∨ ds.getD (k - 1) 0 ≠ 0) : ds.take k = digs (val ds) := by
  rw [← h.2]
  refine (canon _ (ok_take hok k) fun hne => ?_).symm
  have hk : 0 < k := by
    rcases Nat.eq_zero_or_pos k with h0 | h0
    · subst h0; simp at hne
    · exact h0
  rcases hl with h0 | h0
  · omega
  · have hlen : (ds.take k).length = k := by have := h.1; simp; omega
    rw [List.getLast_eq_getElem]
    simp only [hlen, List.getElem_take]
    rw [List.getD_eq_getElem?_getD, List.getElem?_eq_getElem (by have := h.1; omega)] at h0
    exact h0
theorem trimmed_step {ds : List Nat} {k : Nat} (h : trimmed ds (k + 1)) (h0 : ds.getD k 0 = 0) : trimmed ds k := by
  refine ⟨by have := h.1; omega, ?_⟩
  have := val_take_succ ds k
  rw [h.2, h0] at this
  omega
theorem trimmed_all (ds : List Nat) : trimmed ds ds.length := ⟨Nat.le_refl _, by rw [List.take_length]⟩
end Big
end Go.Proofs.Ytopimmomkapdoaa
