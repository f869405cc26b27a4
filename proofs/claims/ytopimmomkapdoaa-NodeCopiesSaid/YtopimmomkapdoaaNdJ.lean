/- There and back, plainly: vectors, leaves, parents and nodes come back of their bytes, and bytes of what is taken of them. No program in sight. -/
import Derived.Test.YtopimmomkapdoaaNdI
namespace Go.Proofs.Ytopimmomkapdoaa
open Go.RowKit
namespace Wire
theorem u8n {n : Nat} (h : n < 256) : (UInt8.ofNat n).toNat = n := by rw [UInt8.toNat_ofNat']; omega
theorem u8e {x : UInt8} {n : Nat} (h : x.toNat = n) : x = UInt8.ofNat n := UInt8.toNat_inj.1 (by have := UInt8.toNat_lt x; rw [UInt8.toNat_ofNat']; omega)
theorem nb1 (a : UInt8) : nb [a] = a.toNat := by simp [nb]
theorem nb2 (a b : UInt8) : nb [a, b] = a.toNat * 256 + b.toNat := by simp [nb]
theorem pLen_len {n : Nat} (h : n < 1073741824) (r : List UInt8) : pLen (len n ++ r) = .ok (n, r) := by
  unfold len
  by_cases h1 : n < 64
  · rw [if_pos h1]
    have hb : (UInt8.ofNat n).toNat = n := u8n (by omega)
    show pLen (UInt8.ofNat n :: r) = _
    rw [pLen_of (s := 1) (by omega) (by rw [hb, show n / 64 = 0 by omega]), if_neg (by omega)]
    have e : nb (UInt8.ofNat ((UInt8.ofNat n).toNat % 64) :: r.take (1 - 1)) = n := by
      rw [hb, Nat.sub_self, List.take_zero, nb1, u8n (by omega)]; omega
    rw [e, if_pos (by unfold lsz; rw [if_pos h1])]
    rfl
  · rw [if_neg h1]
    by_cases h2 : n < 16384
    · rw [if_pos h2]
      have hb : (UInt8.ofNat (64 + n / 256)).toNat = 64 + n / 256 := u8n (by omega)
      show pLen (UInt8.ofNat (64 + n / 256) :: (UInt8.ofNat (n % 256) :: r)) = _
      rw [pLen_of (s := 2) (by omega) (by rw [hb, show (64 + n / 256) / 64 = 1 by omega]), if_neg (by simp)]
      have e : nb (UInt8.ofNat ((UInt8.ofNat (64 + n / 256)).toNat % 64) :: (UInt8.ofNat (n % 256) :: r).take (2 - 1)) = n := by
        rw [hb, show 2 - 1 = 1 from rfl, List.take_succ_cons, List.take_zero, nb2, u8n (by omega), u8n (by omega)]; omega
      rw [e, if_pos (by unfold lsz; rw [if_neg h1, if_pos h2])]
      rfl
    · rw [if_neg h2]
      have hb : (UInt8.ofNat (128 + n / 16777216)).toNat = 128 + n / 16777216 := u8n (by omega)
      show pLen (UInt8.ofNat (128 + n / 16777216) :: (UInt8.ofNat (n / 65536 % 256) :: UInt8.ofNat (n / 256 % 256) :: UInt8.ofNat (n % 256) :: r)) = _
      rw [pLen_of (s := 4) (by omega) (by rw [hb, show (128 + n / 16777216) / 64 = 2 by omega]), if_neg (by simp)]
      have e : nb (UInt8.ofNat ((UInt8.ofNat (128 + n / 16777216)).toNat % 64) :: (UInt8.ofNat (n / 65536 % 256) :: UInt8.ofNat (n / 256 % 256) :: UInt8.ofNat (n % 256) :: r).take (4 - 1)) = n := by
        rw [hb, show 4 - 1 = 3 from rfl, List.take_succ_cons, List.take_succ_cons, List.take_succ_cons, List.take_zero, nb4, u8n (by omega), u8n (by omega), u8n (by omega), u8n (by omega)]; omega
      rw [e, if_pos (by unfold lsz; rw [if_neg h1, if_neg h2])]
      rfl
theorem len_of {xs r : List UInt8} {n : Nat} (h : pLen xs = .ok (n, r)) : xs = len n ++ r := by
  cases xs with
  | nil => cases h
  | cons b t =>
    have hb8 := UInt8.toNat_lt b
    by_cases hb : 192 ≤ b.toNat
    · rw [pLen_big hb] at h; cases h
    · rcases (show b.toNat / 64 = 0 ∨ b.toNat / 64 = 1 ∨ b.toNat / 64 = 2 by omega) with hq | hq | hq
      · rw [pLen_of (s := 1) hb (by rw [hq]), if_neg (by omega)] at h
        split at h
        · rename_i hl
          injection h with h
          injection h with h1 h2
          have hn : n = b.toNat := by rw [← h1]; show nb [UInt8.ofNat (b.toNat % 64)] = _; rw [nb1, u8n (by omega)]; omega
          have hr : r = t := h2.symm
          subst hr
          unfold len
          rw [if_pos (by omega), ← u8e hn.symm]; rfl
        · cases h
      · rw [pLen_of (s := 2) hb (by rw [hq])] at h
        split at h
        · cases h
        · rename_i hl
          obtain ⟨x, t', ht⟩ : ∃ x t', t = x :: t' := by
            cases t with
            | nil => exact absurd (show 0 < 2 - 1 by decide) hl
            | cons x t' => exact ⟨x, t', rfl⟩
          subst ht
          · have hx8 := UInt8.toNat_lt x
            split at h
            · rename_i hz
              injection h with h
              injection h with h1 h2
              have hn : n = (b.toNat % 64) * 256 + x.toNat := by rw [← h1]; show nb [UInt8.ofNat (b.toNat % 64), x] = _; rw [nb2, u8n (by omega)]
              have hr : r = t' := h2.symm
              subst hr
              rw [h1] at hz
              have hn1 : ¬ n < 64 := fun h => by unfold lsz at hz; rw [if_pos h] at hz; omega
              unfold len
              rw [if_neg hn1, if_pos (by omega), ← u8e (x := b) (by omega), ← u8e (x := x) (by omega)]; rfl
            · cases h
      · rw [pLen_of (s := 4) hb (by rw [hq])] at h
        split at h
        · cases h
        · rename_i hl
          obtain ⟨x, y, z, t', ht⟩ : ∃ x y z t', t = x :: y :: z :: t' := by
            cases t with
            | nil => exact absurd (show 0 < 4 - 1 by decide) hl
            | cons x t =>
              cases t with
              | nil => exact absurd (show 1 < 4 - 1 by decide) hl
              | cons y t =>
                cases t with
                | nil => exact absurd (show 2 < 4 - 1 by decide) hl
                | cons z t => exact ⟨x, y, z, t, rfl⟩
          subst ht
          · have hx8 := UInt8.toNat_lt x; have hy8 := UInt8.toNat_lt y; have hz8 := UInt8.toNat_lt z
            split at h
            · rename_i hz
              injection h with h
              injection h with h1 h2
              have hn : n = (((b.toNat % 64) * 256 + x.toNat) * 256 + y.toNat) * 256 + z.toNat := by rw [← h1]; show nb [UInt8.ofNat (b.toNat % 64), x, y, z] = _; rw [nb4, u8n (by omega)]
              have hr : r = t' := h2.symm
              subst hr
              rw [h1] at hz
              have hn1 : ¬ n < 64 := fun h => by unfold lsz at hz; rw [if_pos h] at hz; omega
              have hn2 : ¬ n < 16384 := fun h => by unfold lsz at hz; rw [if_neg hn1, if_pos h] at hz; omega
              unfold len
              rw [if_neg hn1, if_neg hn2, ← u8e (x := b) (by omega), ← u8e (x := x) (by omega), ← u8e (x := y) (by omega), ← u8e (x := z) (by omega)]; rfl
            · cases h
theorem pVec_vec {v : List UInt8} (h : v.length < 1073741824) (r : List UInt8) : pVec (vec v ++ r) = .ok (v, r) := by
  unfold pVec vec
  rw [List.append_assoc, pLen_len h]
  show (if (v ++ r).length < v.length then (.error 4 : Except Nat (List UInt8 × List UInt8)) else .ok ((v ++ r).take v.length, (v ++ r).drop v.length)) = _
  rw [if_neg (by simp), List.take_left, List.drop_left]
theorem vec_of {xs v r : List UInt8} (h : pVec xs = .ok (v, r)) : xs = vec v ++ r := by
  unfold pVec at h
  cases hp : pLen xs with
  | error c => rw [hp] at h; cases h
  | ok p =>
    obtain ⟨n, q⟩ := p
    rw [hp] at h
    have h' : (if q.length < n then (.error 4 : Except Nat (List UInt8 × List UInt8)) else .ok (q.take n, q.drop n)) = .ok (v, r) := h
    split at h'
    · cases h'
    · rename_i hl
      injection h' with h'
      injection h' with e1 e2
      have hvl : v.length = n := by rw [← e1, List.length_take]; omega
      have hx := len_of hp
      unfold vec
      rw [hvl, hx, ← e1, ← e2, List.append_assoc, List.take_append_drop]
theorem vecX_vec {v : List UInt8} (h : v.length < 1073741824) (r : List UInt8) : vecX (.ok (vec v ++ r)) = (v, .ok r) := by
  show (match pVec (vec v ++ r) with
    | .error c => (([], .error c) : List UInt8 × St)
    | .ok (v, r) => (v, .ok r)) = _
  rw [pVec_vec h]
theorem vecX_of {s : St} {r : List UInt8} (h : (vecX s).2 = .ok r) : s = .ok (vec (vecX s).1 ++ r) := by
  cases s with
  | error c => cases h
  | ok xs =>
    have e : vecX (.ok xs) = (match pVec xs with
      | .error c => (([], .error c) : List UInt8 × St)
      | .ok (v, r) => (v, .ok r)) := rfl
    cases hp : pVec xs with
    | error c => rw [e, hp] at h; cases h
    | ok p =>
      obtain ⟨v, q⟩ := p
      rw [e, hp] at h ⊢
      injection h with h
      subst h
      rw [vec_of hp]
theorem num1_cons (a : UInt8) (r : List UInt8) : numX 1 (.ok (a :: r)) = (a.toNat, .ok r) := by
  rw [numX_ok, if_neg (by simp)]
  show (nb [a], _) = _
  rw [nb1]; rfl
theorem num1_of {s : St} {r : List UInt8} (h : (numX 1 s).2 = .ok r) : s = .ok (UInt8.ofNat (numX 1 s).1 :: r) ∧ (numX 1 s).1 < 256 := by
  cases s with
  | error c => cases h
  | ok xs =>
    cases xs with
    | nil => cases h
    | cons a t =>
      rw [num1_cons] at h ⊢
      injection h with h
      subst h
      exact ⟨by rw [← u8e (x := a) rfl], UInt8.toNat_lt a⟩
theorem be4 (n : Nat) : be 4 n = [UInt8.ofNat (n / 16777216), UInt8.ofNat (n / 65536), UInt8.ofNat (n / 256), UInt8.ofNat n] := by
  simp only [be, List.nil_append, List.cons_append, Nat.div_div_eq_div_mul]
theorem nb_be4 {n : Nat} (h : n < 4294967296) : nb (be 4 n) = n := by
  rw [be4, nb4]
  simp only [UInt8.toNat_ofNat']
  omega
theorem be4_nb (a b c d : UInt8) : be 4 (nb [a, b, c, d]) = [a, b, c, d] := by
  have ha := UInt8.toNat_lt a; have hb := UInt8.toNat_lt b; have hc := UInt8.toNat_lt c; have hd := UInt8.toNat_lt d
  rw [nb4, be4]
  congr 1
  · exact UInt8.toNat_inj.1 (by rw [UInt8.toNat_ofNat']; omega)
  · congr 1
    · exact UInt8.toNat_inj.1 (by rw [UInt8.toNat_ofNat']; omega)
    · congr 1
      · exact UInt8.toNat_inj.1 (by rw [UInt8.toNat_ofNat']; omega)
      · congr 1
        exact UInt8.toNat_inj.1 (by rw [UInt8.toNat_ofNat']; omega)
end Wire
open Wire Nd
namespace Nd
theorem ec_ok {s : St} (h : ecode s = 0) (hc : ∀ c, s = .error c → c ≠ 0) : ∃ r, s = .ok r := by
  cases s with
  | ok r => exact ⟨r, rfl⟩
  | error c => exact absurd h (hc c rfl)
/-- No state has the error 0. -/
def Good (s : St) : Prop := ∀ c, s = .error c → c ≠ 0
theorem good_ok (xs : List UInt8) : Good (.ok xs) := fun c h => by cases h
theorem good_vec {s : St} (h : Good s) : Good (vecX s).2 := by
  cases s with
  | error c => exact h
  | ok xs =>
    rw [vecX_ok]
    cases hp : pVec xs with
    | error c => intro d hd; injection hd with hd; subst hd; exact (pVec_err hp).1
    | ok p => intro d hd; cases hd
theorem good_num {s : St} (k : Nat) (h : Good s) : Good (numX k s).2 := by
  cases s with
  | error c => exact h
  | ok xs =>
    rw [numX_ok]
    split
    · intro d hd; injection hd with hd; omega
    · intro d hd; cases hd
theorem leaf_there {l : Leaf} (ok : okLeaf l) (r : List UInt8) : leafX (.ok (leafB l ++ r)) = ((l, 0), .ok r) := by
  obtain ⟨o1, o2, o3, o4, o5, o6, o7, o8⟩ := id ok
  obtain ⟨q, hq⟩ : ∃ q, q = (if l.src = 3 then vec l.parent else []) ++ (vec l.sig ++ r) := ⟨_, rfl⟩
  have e0 : leafB l ++ r = vec l.box ++ (vec l.sign ++ (vec l.ident ++ (UInt8.ofNat l.src :: q))) := by
    unfold leafB leafU; rw [hq]; simp only [List.append_assoc, List.cons_append, List.nil_append]
  obtain ⟨s, hs⟩ : ∃ s : St, s = .ok (leafB l ++ r) := ⟨_, rfl⟩
  rw [← hs]
  have v1 : vecX s = (l.box, .ok (vec l.sign ++ (vec l.ident ++ (UInt8.ofNat l.src :: q)))) := by rw [hs, e0, vecX_vec (by omega)]
  have v2 : vecX (lf1 s) = (l.sign, .ok (vec l.ident ++ (UInt8.ofNat l.src :: q))) := by unfold lf1; rw [v1, vecX_vec (by omega)]
  have v3 : vecX (lf2 s) = (l.ident, .ok (UInt8.ofNat l.src :: q)) := by unfold lf2; rw [v2, vecX_vec (by omega)]
  have v4 : numX 1 (lf3 s) = (l.src, .ok q) := by unfold lf3; rw [v3, num1_cons, u8n (by omega)]
  have e4 : lf4 s = .ok q := by unfold lf4; rw [v4]
  have es : src s = l.src := by unfold src; rw [v4]
  have v5 : leafP s = (l.parent, .ok (vec l.sig ++ r)) := by
    unfold leafP
    rw [es, e4]
    by_cases h3 : l.src = 3
    · rw [if_pos h3, hq, if_pos h3, vecX_vec (by omega)]
    · rw [if_neg h3, hq, if_neg h3]
      have : l.parent = [] := List.eq_nil_of_length_eq_zero (by omega)
      rw [this]; rfl
  have v6 : leafQ s = (l.sig, .ok r) := by unfold leafQ; rw [v5, vecX_vec (by omega)]
  have el : leafL s = l := by unfold leafL; rw [v1, v2, v3, v5, v6, es]
  unfold leafX
  rw [e4, es, v6, el, if_neg (fun h => h rfl), if_neg (by omega), if_neg (fun h => h rfl), if_pos ok]
theorem leaf_back {s st : St} {l : Leaf} (hg : Good s) (h : leafX s = ((l, 0), st)) : okLeaf l ∧ ∃ r, st = .ok r ∧ s = .ok (leafB l ++ r) := by
  have g1 : Good (lf1 s) := good_vec hg
  have g2 : Good (lf2 s) := good_vec g1
  have g3 : Good (lf3 s) := good_vec g2
  have g4 : Good (lf4 s) := good_num 1 g3
  have gP : Good (leafP s).2 := by unfold leafP; split; exact good_vec g4; exact g4
  have gQ : Good (leafQ s).2 := good_vec gP
  unfold leafX at h
  split at h
  · rename_i hn; injection h with h _; injection h with _ h; exact absurd h hn
  · rename_i h4
    split at h
    · injection h with h _; injection h with _ h; omega
    · rename_i hsr
      split at h
      · rename_i hn; injection h with h _; injection h with _ h; exact absurd h hn
      · rename_i hq
        split at h
        · rename_i hok
          injection h with h hst
          injection h with hl _
          subst hst
          obtain ⟨r, hr⟩ := ec_ok (s := (leafQ s).2) (by omega) gQ
          refine ⟨hl ▸ hok, r, hr, ?_⟩
          have b6 := vecX_of (s := (leafP s).2) hr
          obtain ⟨p, hp⟩ := ec_ok (s := lf4 s) (by omega) g4
          have b4 := num1_of (s := lf3 s) hp
          have b3 := vecX_of (s := lf2 s) b4.1
          have b2 := vecX_of (s := lf1 s) b3
          have b1 := vecX_of (s := s) b2
          have hpl : p = (if l.src = 3 then vec l.parent else []) ++ (vec l.sig ++ r) := by
            rw [← hl]
            show p = (if src s = 3 then vec (leafP s).1 else []) ++ (vec (leafQ s).1 ++ r)
            unfold leafP at b6 ⊢
            by_cases h3 : src s = 3
            · rw [if_pos h3] at b6 ⊢
              rw [if_pos h3]
              have b5 := vecX_of (s := lf4 s) b6
              rw [hp] at b5
              injection b5 with b5
              rw [b5, hp]
              unfold leafQ leafP
              rw [if_pos h3, hp]
            · rw [if_neg h3] at b6
              rw [if_neg h3]
              rw [hp] at b6
              injection b6 with b6
              rw [b6]
              unfold leafQ leafP
              rw [if_neg h3, hp]; rfl
          rw [b1, hpl]
          congr 1
          rw [← hl]
          unfold leafB leafU
          show vec (vecX s).1 ++ (vec (vecX (lf1 s)).1 ++ (vec (vecX (lf2 s)).1 ++ (UInt8.ofNat (src s) :: _))) = vec (vecX s).1 ++ vec (vecX (lf1 s)).1 ++ vec (vecX (lf2 s)).1 ++ [UInt8.ofNat (src s)] ++ _ ++ vec _ ++ r
          simp only [List.append_assoc, List.cons_append, List.nil_append]
        · injection h with h _; injection h with _ h; omega
theorem fours_late : ∀ {zs : List Int}, (∀ k, k < zs.length → 0 ≤ zs.getD k 0 ∧ zs.getD k 0 < 65536) → fours (lateB zs) = zs
  | [], _ => rfl
  | z :: zs, h => by
    have h0 := h 0 (by simp)
    obtain ⟨n, hn⟩ := Int.eq_ofNat_of_zero_le h0.1
    have hz : z = (n : Int) := hn
    have hn2 : n < 65536 := by have := h0.2; rw [hn] at this; omega
    have e : lateB (z :: zs) = be 4 n ++ lateB zs := by unfold lateB; rw [List.map_cons, List.flatten_cons, hz]; rfl
    have hl : (be 4 n).length = 4 := be_length 4 n
    rw [e, fours_cons (by rw [List.length_append]; omega), List.take_append_of_le_length (by omega), List.take_of_length_le (by omega), nb_be4 (by omega), List.drop_append, hl, Nat.sub_self, List.drop_of_length_le (by omega), List.nil_append, List.drop_zero, fours_late (fun k hk => h (k + 1) (by simpa using hk)), hz]
theorem late_fours : ∀ {ys : List UInt8}, ys.length % 4 = 0 → lateB (fours ys) = ys
  | [], _ => rfl
  | [_], h => by simp at h
  | [_, _], h => by simp at h
  | [_, _, _], h => by simp at h
  | a :: b :: c :: d :: r, h => by
    have ih := late_fours (ys := r) (by simp only [List.length_cons] at h; omega)
    show ((fours (a :: b :: c :: d :: r)).map fun z => be 4 z.toNat).flatten = _
    show be 4 (((nb [a, b, c, d] : Nat) : Int).toNat) ++ lateB (fours r) = _
    rw [ih, Int.toNat_natCast, be4_nb]; rfl
theorem par_there {p : Par} (ok : okPar p) (hl : p.late.length < 200000000) (r : List UInt8) : parX (.ok (parB p ++ r)) = ((p, 0), .ok r) := by
  obtain ⟨o1, o2, o3⟩ := id ok
  have hll := lateB_length p.late
  obtain ⟨s, hs⟩ : ∃ s : St, s = .ok (parB p ++ r) := ⟨_, rfl⟩
  have e0 : parB p ++ r = vec p.box ++ (vec p.hash ++ (vec (lateB p.late) ++ r)) := by unfold parB; simp only [List.append_assoc]
  rw [← hs]
  have v1 : vecX s = (p.box, .ok (vec p.hash ++ (vec (lateB p.late) ++ r))) := by rw [hs, e0, vecX_vec (by omega)]
  have v2 : vecX (lf1 s) = (p.hash, .ok (vec (lateB p.late) ++ r)) := by unfold lf1; rw [v1, vecX_vec (by omega)]
  have v3 : vecX (lf2 s) = (lateB p.late, .ok r) := by unfold lf2; rw [v2, vecX_vec (by omega)]
  have e3 : lf3 s = .ok r := by unfold lf3; rw [v3]
  have hf : fours (lateB p.late) = p.late := fours_late (rising_bd (by omega) o1)
  unfold parX
  rw [e3, v1, v2, v3, if_neg (fun h => h rfl), hf, if_neg (fun h => h.elim (fun h => absurd (show (lateB p.late).length % 4 ≠ 0 from h) (by omega)) (fun h => h ok))]
theorem par_back {s st : St} {p : Par} (hg : Good s) (h : parX s = ((p, 0), st)) : okPar p ∧ ∃ r, st = .ok r ∧ s = .ok (parB p ++ r) := by
  have g1 : Good (lf1 s) := good_vec hg
  have g2 : Good (lf2 s) := good_vec g1
  have g3 : Good (lf3 s) := good_vec g2
  unfold parX at h
  split at h
  · rename_i hn; injection h with h _; injection h with _ h; exact absurd h hn
  · rename_i h3
    split at h
    · injection h with h _; injection h with _ h; omega
    · rename_i hno
      injection h with h hst
      injection h with hp _
      subst hst
      obtain ⟨r, hr⟩ := ec_ok (s := lf3 s) (by omega) g3
      have hok := Classical.not_not.1 (not_or.1 hno).2
      have hm := (not_or.1 hno).1
      have b3 := vecX_of (s := lf2 s) hr
      have b2 := vecX_of (s := lf1 s) b3
      have b1 := vecX_of (s := s) b2
      refine ⟨hp ▸ hok, r, hr, ?_⟩
      rw [b1]
      congr 1
      rw [← hp]
      unfold parB
      show _ = vec (vecX s).1 ++ vec (vecX (lf1 s)).1 ++ vec (lateB (fours (vecX (lf2 s)).1)) ++ r
      rw [late_fours (by omega)]
      simp only [List.append_assoc]
theorem nodeX_of {s t : St} {k : Nat} (h : numX 1 s = (k, t)) : nodeX s = (if ecode t ≠ 0 then ((Node.zero, ecode t), t)
    else if k = 0 then ((Node.zero, 0), t)
    else if k = 1 then (if (leafX t).1.2 ≠ 0 then ((Node.zero, (leafX t).1.2), (leafX t).2) else ((⟨1, (leafX t).1.1, Par.zero⟩, 0), (leafX t).2))
    else if k = 2 then (if (parX t).1.2 ≠ 0 then ((Node.zero, (parX t).1.2), (parX t).2) else ((⟨2, Leaf.zero, (parX t).1.1⟩, 0), (parX t).2))
    else ((Node.zero, 3), t)) := by unfold nodeX; rw [h]
theorem node_there {n : Node} (ok : okNode n) (hl : n.par.late.length < 200000000) (r : List UInt8) : nodeX (.ok (nodeB n ++ r)) = ((n, 0), .ok r) := by
  obtain ⟨k, l, p⟩ := n
  have hl' : p.late.length < 200000000 := hl
  rcases ok with ⟨h1, h2, h3⟩ | ⟨h1, h2, h3⟩ | ⟨h1, h2, h3⟩
  · have h1 : k = 0 := h1
    have h2 : l = _ := h2
    have h3 : p = _ := h3
    subst h1; subst h2; subst h3
    have e : numX 1 (.ok (nodeB ⟨0, Leaf.zero, Par.zero⟩ ++ r)) = (0, .ok r) := num1_cons 0 r
    rw [nodeX_of e, if_neg (fun h => h rfl), if_pos rfl]; rfl
  · have h1 : k = 1 := h1
    have h3 : p = _ := h3
    subst h1; subst h3
    have e : numX 1 (.ok (nodeB ⟨1, l, Par.zero⟩ ++ r)) = (1, .ok (leafB l ++ r)) := num1_cons 1 (leafB l ++ r)
    have hx : leafX (.ok (leafB l ++ r)) = ((l, 0), .ok r) := leaf_there h2 r
    rw [nodeX_of e, if_neg (fun h => h rfl), if_neg (by decide), if_pos rfl, hx, if_neg (fun h => h rfl)]
  · have h1 : k = 2 := h1
    have h2 : l = _ := h2
    subst h1; subst h2
    have e : numX 1 (.ok (nodeB ⟨2, Leaf.zero, p⟩ ++ r)) = (2, .ok (parB p ++ r)) := num1_cons 2 (parB p ++ r)
    have hx : parX (.ok (parB p ++ r)) = ((p, 0), .ok r) := par_there h3 hl' r
    rw [nodeX_of e, if_neg (fun h => h rfl), if_neg (by decide), if_neg (by decide), if_pos rfl, hx, if_neg (fun h => h rfl)]
theorem node_back {s st : St} {n : Node} (hg : Good s) (h : nodeX s = ((n, 0), st)) : okNode n ∧ ∃ r, st = .ok r ∧ s = .ok (nodeB n ++ r) := by
  have g1 := good_num 1 hg
  have b0 : ∀ p, (numX 1 s).2 = .ok p → s = .ok (UInt8.ofNat (numX 1 s).1 :: p) := fun p hp => (num1_of hp).1
  obtain ⟨k, t, hkt⟩ : ∃ k t, numX 1 s = (k, t) := ⟨_, _, rfl⟩
  rw [nodeX_of hkt] at h
  rw [hkt] at g1 b0
  have b0 : ∀ p, t = .ok p → s = .ok (UInt8.ofNat k :: p) := b0
  have g1 : Good t := g1
  clear hkt
  split at h
  · rename_i hn; injection h with h _; injection h with _ h; exact absurd h hn
  · rename_i h0
    obtain ⟨p, hp⟩ := ec_ok (s := t) (by omega) g1
    have b1 := b0 p hp
    split at h
    · rename_i hk
      injection h with h hst
      injection h with hn _
      subst hn; subst hst
      exact ⟨.inl ⟨rfl, rfl, rfl⟩, p, hp, by rw [b1, hk]; rfl⟩
    · split at h
      · rename_i hk
        obtain ⟨⟨l, z⟩, su, hX⟩ : ∃ a b, leafX t = (a, b) := ⟨_, _, rfl⟩
        rw [hX] at h
        split at h
        · rename_i hz; injection h with h _; injection h with _ h; exact absurd h hz
        · rename_i hz
          have hz : z = 0 := Classical.not_not.1 hz
          injection h with h hst
          injection h with hn _
          subst hz; subst hst
          obtain ⟨k1, r, k2, k3⟩ := leaf_back g1 hX
          rw [hp] at k3
          injection k3 with k3
          subst hn
          exact ⟨.inr (.inl ⟨rfl, k1, rfl⟩), r, k2, by rw [b1, hk, k3]; rfl⟩
      · split at h
        · rename_i hk
          obtain ⟨⟨l, z⟩, su, hX⟩ : ∃ a b, parX t = (a, b) := ⟨_, _, rfl⟩
          rw [hX] at h
          split at h
          · rename_i hz; injection h with h _; injection h with _ h; exact absurd h hz
          · rename_i hz
            have hz : z = 0 := Classical.not_not.1 hz
            injection h with h hst
            injection h with hn _
            subst hz; subst hst
            obtain ⟨k1, r, k2, k3⟩ := par_back g1 hX
            rw [hp] at k3
            injection k3 with k3
            subst hn
            exact ⟨.inr (.inr ⟨rfl, rfl, k1⟩), r, k2, by rw [b1, hk, k3]; rfl⟩
        · injection h with h _; injection h with _ h; omega
end Nd
end Go.Proofs.Ytopimmomkapdoaa
