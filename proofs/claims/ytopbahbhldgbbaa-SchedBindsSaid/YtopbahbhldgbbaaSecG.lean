/- One secret, one context: two unlike beginnings with one end have two unlike texts of one digest. No program in sight. -/
import Derived.Test.YtopbahbhldgbbaaSecD
namespace Go.Proofs.Ytopbahbhldgbbaa
/-- The two texts that a tag hashes. -/
def hashedL (key text : List UInt8) : List (List UInt8) := [Mac.held key 54 ++ text, Mac.held key 92 ++ Sha.sum (Mac.held key 54 ++ text)]
def Collides (A B : List (List UInt8)) : Prop := ∃ x ∈ A, ∃ y ∈ B, x ≠ y ∧ Sha.sum x = Sha.sum y
theorem xor_inj {a b c : UInt8} (h : a ^^^ c = b ^^^ c) : a = b := by
  have := congrArg (· ^^^ c) h
  simpa [UInt8.xor_assoc] using this
theorem map_xor_inj {c : UInt8} : ∀ {l m : List UInt8}, l.map (· ^^^ c) = m.map (· ^^^ c) → l = m
  | [], [], _ => rfl
  | [], _ :: _, h => by simp at h
  | _ :: _, [], h => by simp at h
  | x :: l, y :: m, h => by
    simp only [List.map_cons, List.cons.injEq] at h
    rw [xor_inj h.1, map_xor_inj h.2]
theorem held_inj {k l : List UInt8} {c : UInt8} (hk : k.length = 32) (hl : l.length = 32) (h : Mac.held k c = Mac.held l c) : k = l := by
  have h1 := map_xor_inj h
  unfold Mac.k64 at h1
  simp only [hk, hl] at h1
  exact (List.append_inj h1 (by simp [hk, hl])).1
theorem tag_binds {k l s t : List UInt8} (hk : k.length = 32) (hl : l.length = 32) (h : Mac.tag k s = Mac.tag l t) (hno : ¬ Collides (hashedL k s) (hashedL l t)) : k = l ∧ s = t := by
  have e1 : Mac.held k 92 ++ Sha.sum (Mac.held k 54 ++ s) = Mac.held l 92 ++ Sha.sum (Mac.held l 54 ++ t) := Classical.byContradiction fun hne => hno ⟨_, by simp [hashedL], _, by simp [hashedL], hne, h⟩
  obtain ⟨e2, e3⟩ := List.append_inj e1 (by rw [Mac.held_length, Mac.held_length])
  have e4 : Mac.held k 54 ++ s = Mac.held l 54 ++ t := Classical.byContradiction fun hne => hno ⟨_, by simp [hashedL], _, by simp [hashedL], hne, e3⟩
  exact ⟨held_inj hk hl e2, (List.append_inj e4 (by rw [Mac.held_length, Mac.held_length])).2⟩
/-- What is expanded to one block. -/
def info1 (lab ctx : List UInt8) : List UInt8 := Kdf.info lab ctx 32 ++ [1]
theorem label_tag (s lab ctx : List UInt8) : Kdf.label s lab ctx 32 = Mac.tag s (info1 lab ctx) := by
  unfold Kdf.label Kdf.expand
  rw [show (32 + 31) / 32 = 0 + 1 from rfl, Kdf.okm, Kdf.okm, List.nil_append, List.take_of_length_le (by rw [Kdf.T_length]; omega), Kdf.T, Kdf.T, List.nil_append]
  rfl
/-- All texts. -/
def trailL (j : List UInt8) (c : Ctx) : List (List UInt8) :=
  hashedL j (List.replicate 32 0) ++ hashedL (secMid j) (info1 sEpoch.data.toList (ctxBytes c)) ++ hashedL (secEp j c) (info1 (sLab 5).data.toList []) ++ hashedL (secEp j c) (info1 (sLab 8).data.toList [])
theorem Collides.mono {A B A' B' : List (List UInt8)} (h : Collides A B) (ha : ∀ x ∈ A, x ∈ A') (hb : ∀ x ∈ B, x ∈ B') : Collides A' B' := by
  obtain ⟨x, hx, y, hy, h1, h2⟩ := h
  exact ⟨x, ha x hx, y, hb y hy, h1, h2⟩
theorem ofNat_inj {a b : Nat} (h : UInt8.ofNat a = UInt8.ofNat b) : a % 256 = b % 256 := by
  have := congrArg UInt8.toNat h
  simpa [UInt8.toNat_ofNat'] using this
theorem be_inj : ∀ (k n m : Nat), Wire.be k n = Wire.be k m → n % 256 ^ k = m % 256 ^ k
  | 0, n, m, _ => by simp [Nat.mod_one]
  | k + 1, n, m, h => by
    rw [Wire.be, Wire.be] at h
    obtain ⟨h1, h2⟩ := List.append_inj h (by rw [Wire.be_length, Wire.be_length])
    have h3 := be_inj k _ _ h1
    simp only [List.cons.injEq, and_true] at h2
    have h4 := ofNat_inj h2
    have key : ∀ x : Nat, x % 256 ^ (k + 1) = x / 256 % 256 ^ k * 256 + x % 256 := fun x => by
      rw [Nat.pow_succ, Nat.mul_comm, Nat.mod_mul]; omega
    rw [key n, key m, h3, h4]
theorem vec_inj {a b x y : List UInt8} (ha : a.length ≤ 200) (hb : b.length ≤ 200) (h : Wire.vec a ++ x = Wire.vec b ++ y) : a = b ∧ x = y := by
  have hlen : a.length = b.length := by
    unfold Wire.vec Wire.len at h
    by_cases h1 : a.length < 64 <;> by_cases h2 : b.length < 64
    · rw [if_pos h1, if_pos h2] at h
      simp only [List.cons_append, List.cons.injEq] at h
      have := ofNat_inj h.1; omega
    · rw [if_pos h1, if_neg h2, if_pos (by omega)] at h
      simp only [List.cons_append, List.cons.injEq] at h
      have := ofNat_inj h.1; omega
    · rw [if_neg h1, if_pos h2, if_pos (by omega)] at h
      simp only [List.cons_append, List.cons.injEq] at h
      have := ofNat_inj h.1; omega
    · rw [if_neg h1, if_neg h2, if_pos (by omega), if_pos (by omega)] at h
      simp only [List.cons_append, List.cons.injEq] at h
      have := ofNat_inj h.2.1; omega
  obtain ⟨h1, h2⟩ := List.append_inj h (by rw [Wire.vec_length, Wire.vec_length, hlen])
  unfold Wire.vec at h1
  exact ⟨(List.append_inj h1 (by rw [Wire.len_length, Wire.len_length, hlen])).2, h2⟩
theorem ctxBytes_inj {c d : Ctx} (hc : c.Small) (hd : d.Small) (h : ctxBytes c = ctxBytes d) : c = d := by
  obtain ⟨c1, c2, c3, c4⟩ := hc
  obtain ⟨d1, d2, d3, d4⟩ := hd
  unfold ctxBytes at h
  simp only [List.append_assoc] at h
  have h1 := (List.append_inj h rfl).2
  have h2 := (List.append_inj h1 rfl).2
  obtain ⟨e1, h3⟩ := vec_inj c1 d1 h2
  obtain ⟨e2, h4⟩ := List.append_inj h3 (by rw [Wire.be_length, Wire.be_length])
  obtain ⟨e3, h5⟩ := vec_inj c2 d2 h4
  obtain ⟨e4, _⟩ := vec_inj c3 d3 h5
  have e5 := be_inj 8 _ _ e2
  rw [show (256 : Nat) ^ 8 = 18446744073709551616 from rfl, Nat.mod_eq_of_lt c4, Nat.mod_eq_of_lt d4] at e5
  cases c; cases d
  simp only [Ctx.mk.injEq]
  exact ⟨e1, e5, e3, e4⟩
theorem vec_long_inj {l a b : List UInt8} (h : Wire.vec l ++ Wire.vec a ++ [(1 : UInt8)] = Wire.vec l ++ Wire.vec b ++ [1]) : Wire.vec a = Wire.vec b := by
  have := List.append_cancel_right h
  exact List.append_cancel_left this
theorem len_inj {a b : List UInt8} (ha : a.length < 16384) (hb : b.length < 16384) (h : Wire.vec a = Wire.vec b) : a = b := by
  have hlen : a.length = b.length := by
    unfold Wire.vec Wire.len at h
    by_cases h1 : a.length < 64 <;> by_cases h2 : b.length < 64
    · rw [if_pos h1, if_pos h2] at h
      simp only [List.cons_append, List.cons.injEq] at h
      have := ofNat_inj h.1; omega
    · rw [if_pos h1, if_neg h2, if_pos (by omega)] at h
      simp only [List.cons_append, List.cons.injEq] at h
      have := ofNat_inj h.1; omega
    · rw [if_neg h1, if_pos h2, if_pos (by omega)] at h
      simp only [List.cons_append, List.cons.injEq] at h
      have := ofNat_inj h.1; omega
    · rw [if_neg h1, if_neg h2, if_pos (by omega), if_pos (by omega)] at h
      simp only [List.cons_append, List.cons.injEq] at h
      have q1 := ofNat_inj h.1; have q2 := ofNat_inj h.2.1; omega
  unfold Wire.vec at h
  exact (List.append_inj h (by rw [Wire.len_length, Wire.len_length, hlen])).2
theorem info1_inj {lab a b : List UInt8} (ha : a.length < 16384) (hb : b.length < 16384) (h : info1 lab a = info1 lab b) : a = b := by
  unfold info1 Kdf.info at h
  have h1 := List.append_cancel_right h
  simp only [List.append_assoc] at h1
  exact len_inj ha hb (List.append_cancel_left (List.append_cancel_left h1))
/-- The law's heart. -/
theorem binds {j k : List UInt8} {c d : Ctx} (hj : j.length = 32) (hk : k.length = 32) (hc : c.Small) (hd : d.Small) (hne : ¬ (j = k ∧ c = d))
    (h : secSub (secEp j c) 5 = secSub (secEp k d) 5 ∨ secSub (secEp j c) 8 = secSub (secEp k d) 8) : Collides (trailL j c) (trailL k d) := by
  apply Classical.byContradiction
  intro hno
  have e1l : (secEp j c).length = 32 := label_length _ _ _ _
  have e2l : (secEp k d).length = 32 := label_length _ _ _ _
  have n1 : ¬ Collides (hashedL j (List.replicate 32 0)) (hashedL k (List.replicate 32 0)) := fun q => hno (q.mono (fun x hx => by unfold trailL; simp only [List.mem_append]; exact .inl (.inl (.inl hx))) (fun x hx => by unfold trailL; simp only [List.mem_append]; exact .inl (.inl (.inl hx))))
  have n2 : ¬ Collides (hashedL (secMid j) (info1 sEpoch.data.toList (ctxBytes c))) (hashedL (secMid k) (info1 sEpoch.data.toList (ctxBytes d))) := fun q => hno (q.mono (fun x hx => by unfold trailL; simp only [List.mem_append]; exact .inl (.inl (.inr hx))) (fun x hx => by unfold trailL; simp only [List.mem_append]; exact .inl (.inl (.inr hx))))
  have n3 : ¬ Collides (hashedL (secEp j c) (info1 (sLab 5).data.toList [])) (hashedL (secEp k d) (info1 (sLab 5).data.toList [])) := fun q => hno (q.mono (fun x hx => by unfold trailL; simp only [List.mem_append]; exact .inl (.inr hx)) (fun x hx => by unfold trailL; simp only [List.mem_append]; exact .inl (.inr hx)))
  have n4 : ¬ Collides (hashedL (secEp j c) (info1 (sLab 8).data.toList [])) (hashedL (secEp k d) (info1 (sLab 8).data.toList [])) := fun q => hno (q.mono (fun x hx => by unfold trailL; simp only [List.mem_append]; exact .inr hx) (fun x hx => by unfold trailL; simp only [List.mem_append]; exact .inr hx))
  have he : secEp j c = secEp k d := by
    rcases h with h | h
    · unfold secSub at h; rw [label_tag, label_tag] at h; exact (tag_binds e1l e2l h n3).1
    · unfold secSub at h; rw [label_tag, label_tag] at h; exact (tag_binds e1l e2l h n4).1
  have he' := he
  unfold secEp at he'
  rw [label_tag, label_tag] at he'
  obtain ⟨hm, hi⟩ := tag_binds (secMid_length j) (secMid_length k) he' n2
  have hcd := ctxBytes_inj hc hd (info1_inj (by have := ctxBytes_length hc; omega) (by have := ctxBytes_length hd; omega) hi)
  unfold secMid at hm
  exact hne ⟨(tag_binds hj hk hm n1).1, hcd⟩
end Go.Proofs.Ytopbahbhldgbbaa
