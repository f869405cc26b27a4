/- The reference's word for nodes that may be and their bytes, and the law NodeBytes. -/
import Derived.Test.YtpgalbgonmclaaaGreatNdH
import Derived.Test.YtpgalbgonmclaaaGreatNdD
/- The laws NodeTakes and NodeRows: they answer true whatever they are given. -/
namespace Go.Proofs.YtpgalbgonmclaaaGreat
open Go.RowKit
attribute [local irreducible] Y Ef WL WC WK WQ WM OpM WN WF OpN WJ OpJ
open Wire Nd
namespace Nd
theorem cok_vec {s : St} (h : ecode s < 256) : ecode (vecX s).2 < 256 := by
  cases s with
  | error c => exact h
  | ok xs =>
    rw [vecX_ok]
    cases hp : pVec xs with
    | error c => exact (pVec_err hp).2
    | ok p => exact (show 0 < 256 by omega)
theorem cok_num {s : St} (k : Nat) (h : ecode s < 256) : ecode (numX k s).2 < 256 := by
  cases s with
  | error c => exact h
  | ok xs =>
    rw [numX_ok]
    split
    · exact (show 4 < 256 by omega)
    · exact (show 0 < 256 by omega)
theorem num_le {s : St} (k : Nat) : slen (numX k s).2 ≤ slen s := by
  cases s with
  | error c => exact Nat.le_refl _
  | ok xs =>
    rw [numX_ok]
    split
    · exact Nat.zero_le _
    · show (xs.drop k).length ≤ xs.length
      rw [List.length_drop]; omega
theorem cok_lf4 {s : St} (h : ecode s < 256) : ecode (lf4 s) < 256 := cok_num 1 (cok_vec (cok_vec (cok_vec h)))
theorem cok_leafQ {s : St} (h : ecode s < 256) : ecode (leafQ s).2 < 256 := by
  unfold leafQ leafP
  split
  · exact cok_vec (cok_vec (cok_lf4 h))
  · exact cok_vec (cok_lf4 h)
theorem cok_leafX {s : St} (h : ecode s < 256) : (leafX s).1.2 < 256 ∧ ecode (leafX s).2 < 256 := by
  have h4 := cok_lf4 h; have hq := cok_leafQ h
  unfold leafX
  split
  · exact ⟨h4, h4⟩
  · split
    · exact ⟨(show 3 < 256 by omega), h4⟩
    · split
      · exact ⟨hq, hq⟩
      · split
        · exact ⟨(show 0 < 256 by omega), hq⟩
        · exact ⟨(show 3 < 256 by omega), hq⟩
theorem fit_zero : Leaf.zero.Fit := ⟨Nat.zero_le _, Nat.zero_le _, Nat.zero_le _, Nat.zero_le _, Nat.zero_le _⟩
theorem fit_par0 : Par.zero.Fit := ⟨Nat.zero_le _, Nat.zero_le _, Nat.zero_le _⟩
theorem fit_leafX {s : St} (h : slen s ≤ 1000000) : (leafX s).1.1.Fit := by
  have a1 := vecX_le s; have a2 := vecX_le (lf1 s); have a3 := vecX_le (lf2 s)
  have a4 : slen (lf4 s) ≤ slen (lf3 s) := num_le 1
  have e1 : slen (lf1 s) ≤ slen s := a1.2
  have e2 : slen (lf2 s) ≤ slen (lf1 s) := a2.2
  have e3 : slen (lf3 s) ≤ slen (lf2 s) := a3.2
  have a5 : (leafP s).1.length ≤ slen s ∧ slen (leafP s).2 ≤ slen s := by
    unfold leafP
    split
    · have := vecX_le (lf4 s); omega
    · exact ⟨Nat.zero_le _, by show slen (lf4 s) ≤ slen s; omega⟩
  have a6 := vecX_le (leafP s).2
  have a7 : (leafQ s).1.length ≤ slen (leafP s).2 := a6.1
  have hl : (leafL s).Fit := ⟨by show (vecX s).1.length ≤ _; omega, by show (vecX (lf1 s)).1.length ≤ _; omega, by show (vecX (lf2 s)).1.length ≤ _; omega, by show (leafP s).1.length ≤ _; omega, by show (leafQ s).1.length ≤ _; omega⟩
  unfold leafX
  split
  · exact fit_zero
  · split
    · exact fit_zero
    · split
      · exact fit_zero
      · split
        · exact hl
        · exact fit_zero
theorem endX_drop {b : List UInt8} {k : Nat} : endX (.ok (b.drop k)) = if k < b.length then 5 else 0 := by
  by_cases h : k < b.length
  · rw [if_pos h, drop_cons h]; rfl
  · rw [if_neg h, List.drop_of_length_le (by omega)]; rfl
end Nd
theorem nodeAt_zero (w : World) : NodeAt w zNodeV Node.zero := (NodeF.zero 0 w).at
theorem NodeS.kk {A : Option Addr} {n base : Nat} {b : List UInt8} {cs : Array Value} {x : Node} {w : World} {S : List Nat} (h : NodeS A n b base w cs x) (hS : ∀ g ∈ S, g < base) : Kp w.heap.size S (fun w => NodeS A n b base w cs x) w := by
  obtain ⟨h0, h1, h2, h4, h5, p0, p1, p2, e, hk, hs, b0, b1, b2, b4, b5, q0, q1, q2⟩ := h
  exact ⟨Nat.le_refl _, fun w2 hw => ⟨h0, h1, h2, h4, h5, p0, p1, p2, e, hk, hs, b0, b1, b2, b4, b5, q0, q1, (q2.kk hS).2 w2 hw⟩⟩
theorem NodeS.ext {A : Option Addr} {n base : Nat} {b : List UInt8} {cs : Array Value} {x : Node} {w w' : World} (h : NodeS A n b base w cs x) (e : Ext w w') : NodeS A n b base w' cs x := NodeC.imp h (fun _ _ s => s) (fun _ _ z => z.ext e)
namespace Nd
theorem leafX_le (s : St) : slen (leafX s).2 ≤ slen s := by
  have a1 : slen (lf1 s) ≤ slen s := (vecX_le s).2
  have a2 : slen (lf2 s) ≤ slen (lf1 s) := (vecX_le (lf1 s)).2
  have a3 : slen (lf3 s) ≤ slen (lf2 s) := (vecX_le (lf2 s)).2
  have a4 : slen (lf4 s) ≤ slen (lf3 s) := num_le 1
  have a5 : slen (leafP s).2 ≤ slen (lf4 s) := by
    unfold leafP
    split
    · exact (vecX_le _).2
    · exact Nat.le_refl _
  have a6 : slen (leafQ s).2 ≤ slen (leafP s).2 := (vecX_le _).2
  unfold leafX
  split
  · show slen (lf4 s) ≤ _; omega
  · split
    · show slen (lf4 s) ≤ _; omega
    · split
      · show slen (leafQ s).2 ≤ _; omega
      · split
        · show slen (leafQ s).2 ≤ _; omega
        · show slen (leafQ s).2 ≤ _; omega
end Nd
end Go.Proofs.YtpgalbgonmclaaaGreat

/- There and back, plainly: vectors, leaves, parents and nodes come back of their bytes, and bytes of what is taken of them. No program in sight. -/
namespace Go.Proofs.YtpgalbgonmclaaaGreat
open Go.RowKit
namespace Wire
theorem u8n {n : Nat} (h : n < 256) : (UInt8.ofNat n).toNat = n := by rw [UInt8.toNat_ofNat']; omega
theorem u8e {x : UInt8} {n : Nat} (h : x.toNat = n) : x = UInt8.ofNat n := UInt8.toNat_inj.1 (by have := UInt8.toNat_lt x; rw [UInt8.toNat_ofNat']; omega)
theorem nb1 (a : UInt8) : nb [a] = a.toNat := by simp [nb]
theorem nb2 (a b : UInt8) : nb [a, b] = a.toNat * 256 + b.toNat := by simp [nb]
theorem len_of {xs r : List UInt8} {n : Nat} (h : pLen xs = .ok (n, r)) : xs = len n ++ r := by
  cases xs with
  | nil => cases h
  | cons b t =>
    have hb8 := UInt8.toNat_lt b
    by_cases hb : 192 ≤ b.toNat
    · rw [pLen_big hb] at h; cases h
    · rcases (show b.toNat / 64 = 0 ∨ b.toNat / 64 = 1 ∨ b.toNat / 64 = 2 by omega) with hq | hq | hq
      · rw [pLen_of (s := 1) hb (by rw [hq]), if_neg (by omega)] at h
        split at h
        · rename_i hl
          injection h with h
          injection h with h1 h2
          have hn : n = b.toNat := by rw [← h1]; show nb [UInt8.ofNat (b.toNat % 64)] = _; rw [nb1, u8n (by omega)]; omega
          have hr : r = t := h2.symm
          subst hr
          unfold len
          rw [if_pos (by omega), ← u8e hn.symm]; rfl
        · cases h
      · rw [pLen_of (s := 2) hb (by rw [hq])] at h
        split at h
        · cases h
        · rename_i hl
          obtain ⟨x, t', ht⟩ : ∃ x t', t = x :: t' := by
            cases t with
            | nil => exact absurd (show 0 < 2 - 1 by decide) hl
            | cons x t' => exact ⟨x, t', rfl⟩
          subst ht
          · have hx8 := UInt8.toNat_lt x
            split at h
            · rename_i hz
              injection h with h
              injection h with h1 h2
              have hn : n = (b.toNat % 64) * 256 + x.toNat := by rw [← h1]; show nb [UInt8.ofNat (b.toNat % 64), x] = _; rw [nb2, u8n (by omega)]
              have hr : r = t' := h2.symm
              subst hr
              rw [h1] at hz
              have hn1 : ¬ n < 64 := fun h => by unfold lsz at hz; rw [if_pos h] at hz; omega
              unfold len
              rw [if_neg hn1, if_pos (by omega), ← u8e (x := b) (by omega), ← u8e (x := x) (by omega)]; rfl
            · cases h
      · rw [pLen_of (s := 4) hb (by rw [hq])] at h
        split at h
        · cases h
        · rename_i hl
          obtain ⟨x, y, z, t', ht⟩ : ∃ x y z t', t = x :: y :: z :: t' := by
            cases t with
            | nil => exact absurd (show 0 < 4 - 1 by decide) hl
            | cons x t =>
              cases t with
              | nil => exact absurd (show 1 < 4 - 1 by decide) hl
              | cons y t =>
                cases t with
                | nil => exact absurd (show 2 < 4 - 1 by decide) hl
                | cons z t => exact ⟨x, y, z, t, rfl⟩
          subst ht
          · have hx8 := UInt8.toNat_lt x; have hy8 := UInt8.toNat_lt y; have hz8 := UInt8.toNat_lt z
            split at h
            · rename_i hz
              injection h with h
              injection h with h1 h2
              have hn : n = (((b.toNat % 64) * 256 + x.toNat) * 256 + y.toNat) * 256 + z.toNat := by rw [← h1]; show nb [UInt8.ofNat (b.toNat % 64), x, y, z] = _; rw [nb4, u8n (by omega)]
              have hr : r = t' := h2.symm
              subst hr
              rw [h1] at hz
              have hn1 : ¬ n < 64 := fun h => by unfold lsz at hz; rw [if_pos h] at hz; omega
              have hn2 : ¬ n < 16384 := fun h => by unfold lsz at hz; rw [if_neg hn1, if_pos h] at hz; omega
              unfold len
              rw [if_neg hn1, if_neg hn2, ← u8e (x := b) (by omega), ← u8e (x := x) (by omega), ← u8e (x := y) (by omega), ← u8e (x := z) (by omega)]; rfl
            · cases h
theorem vec_of {xs v r : List UInt8} (h : pVec xs = .ok (v, r)) : xs = vec v ++ r := by
  unfold pVec at h
  cases hp : pLen xs with
  | error c => rw [hp] at h; cases h
  | ok p =>
    obtain ⟨n, q⟩ := p
    rw [hp] at h
    have h' : (if q.length < n then (.error 4 : Except Nat (List UInt8 × List UInt8)) else .ok (q.take n, q.drop n)) = .ok (v, r) := h
    split at h'
    · cases h'
    · rename_i hl
      injection h' with h'
      injection h' with e1 e2
      have hvl : v.length = n := by rw [← e1, List.length_take]; omega
      have hx := len_of hp
      unfold vec
      rw [hvl, hx, ← e1, ← e2, List.append_assoc, List.take_append_drop]
theorem vecX_of {s : St} {r : List UInt8} (h : (vecX s).2 = .ok r) : s = .ok (vec (vecX s).1 ++ r) := by
  cases s with
  | error c => cases h
  | ok xs =>
    have e : vecX (.ok xs) = (match pVec xs with
      | .error c => (([], .error c) : List UInt8 × St)
      | .ok (v, r) => (v, .ok r)) := rfl
    cases hp : pVec xs with
    | error c => rw [e, hp] at h; cases h
    | ok p =>
      obtain ⟨v, q⟩ := p
      rw [e, hp] at h ⊢
      injection h with h
      subst h
      rw [vec_of hp]
theorem num1_cons (a : UInt8) (r : List UInt8) : numX 1 (.ok (a :: r)) = (a.toNat, .ok r) := by
  rw [numX_ok, if_neg (by simp)]
  show (nb [a], _) = _
  rw [nb1]; rfl
theorem num1_of {s : St} {r : List UInt8} (h : (numX 1 s).2 = .ok r) : s = .ok (UInt8.ofNat (numX 1 s).1 :: r) ∧ (numX 1 s).1 < 256 := by
  cases s with
  | error c => cases h
  | ok xs =>
    cases xs with
    | nil => cases h
    | cons a t =>
      rw [num1_cons] at h ⊢
      injection h with h
      subst h
      exact ⟨by rw [← u8e (x := a) rfl], UInt8.toNat_lt a⟩
theorem be4 (n : Nat) : be 4 n = [UInt8.ofNat (n / 16777216), UInt8.ofNat (n / 65536), UInt8.ofNat (n / 256), UInt8.ofNat n] := by
  simp only [be, List.nil_append, List.cons_append, Nat.div_div_eq_div_mul]
end Wire
open Wire Nd
namespace Nd
theorem ec_ok {s : St} (h : ecode s = 0) (hc : ∀ c, s = .error c → c ≠ 0) : ∃ r, s = .ok r := by
  cases s with
  | ok r => exact ⟨r, rfl⟩
  | error c => exact absurd h (hc c rfl)
/-- No state has the error 0. -/
def Good (s : St) : Prop := ∀ c, s = .error c → c ≠ 0
theorem good_ok (xs : List UInt8) : Good (.ok xs) := fun c h => by cases h
theorem good_vec {s : St} (h : Good s) : Good (vecX s).2 := by
  cases s with
  | error c => exact h
  | ok xs =>
    rw [vecX_ok]
    cases hp : pVec xs with
    | error c => intro d hd; injection hd with hd; subst hd; exact (pVec_err hp).1
    | ok p => intro d hd; cases hd
theorem good_num {s : St} (k : Nat) (h : Good s) : Good (numX k s).2 := by
  cases s with
  | error c => exact h
  | ok xs =>
    rw [numX_ok]
    split
    · intro d hd; injection hd with hd; omega
    · intro d hd; cases hd
theorem leaf_back {s st : St} {l : Leaf} (hg : Good s) (h : leafX s = ((l, 0), st)) : okLeaf l ∧ ∃ r, st = .ok r ∧ s = .ok (leafB l ++ r) := by
  have g1 : Good (lf1 s) := good_vec hg
  have g2 : Good (lf2 s) := good_vec g1
  have g3 : Good (lf3 s) := good_vec g2
  have g4 : Good (lf4 s) := good_num 1 g3
  have gP : Good (leafP s).2 := by unfold leafP; split; exact good_vec g4; exact g4
  have gQ : Good (leafQ s).2 := good_vec gP
  unfold leafX at h
  split at h
  · rename_i hn; injection h with h _; injection h with _ h; exact absurd h hn
  · rename_i h4
    split at h
    · injection h with h _; injection h with _ h; omega
    · rename_i hsr
      split at h
      · rename_i hn; injection h with h _; injection h with _ h; exact absurd h hn
      · rename_i hq
        split at h
        · rename_i hok
          injection h with h hst
          injection h with hl _
          subst hst
          obtain ⟨r, hr⟩ := ec_ok (s := (leafQ s).2) (by omega) gQ
          refine ⟨hl ▸ hok, r, hr, ?_⟩
          have b6 := vecX_of (s := (leafP s).2) hr
          obtain ⟨p, hp⟩ := ec_ok (s := lf4 s) (by omega) g4
          have b4 := num1_of (s := lf3 s) hp
          have b3 := vecX_of (s := lf2 s) b4.1
          have b2 := vecX_of (s := lf1 s) b3
          have b1 := vecX_of (s := s) b2
          have hpl : p = (if l.src = 3 then vec l.parent else []) ++ (vec l.sig ++ r) := by
            rw [← hl]
            show p = (if src s = 3 then vec (leafP s).1 else []) ++ (vec (leafQ s).1 ++ r)
            unfold leafP at b6 ⊢
            by_cases h3 : src s = 3
            · rw [if_pos h3] at b6 ⊢
              rw [if_pos h3]
              have b5 := vecX_of (s := lf4 s) b6
              rw [hp] at b5
              injection b5 with b5
              rw [b5, hp]
              unfold leafQ leafP
              rw [if_pos h3, hp]
            · rw [if_neg h3] at b6
              rw [if_neg h3]
              rw [hp] at b6
              injection b6 with b6
              rw [b6]
              unfold leafQ leafP
              rw [if_neg h3, hp]; rfl
          rw [b1, hpl]
          congr 1
          rw [← hl]
          unfold leafB leafU
          show vec (vecX s).1 ++ (vec (vecX (lf1 s)).1 ++ (vec (vecX (lf2 s)).1 ++ (UInt8.ofNat (src s) :: _))) = vec (vecX s).1 ++ vec (vecX (lf1 s)).1 ++ vec (vecX (lf2 s)).1 ++ [UInt8.ofNat (src s)] ++ _ ++ vec _ ++ r
          simp only [List.append_assoc, List.cons_append, List.nil_append]
        · injection h with h _; injection h with _ h; omega
end Nd
end Go.Proofs.YtpgalbgonmclaaaGreat

namespace Go.Proofs.YtpgalbgonmclaaaGreat
open Go.RowKit
attribute [local irreducible] Y Ef WL WC WK WQ WM OpM WN WF OpN WJ OpJ
open Wire Nd
theorem leafN_zero {l : Leaf} : (⟨0, l, Par.zero⟩ : Node) = Node.zero ↔ l = Leaf.zero := ⟨fun h => congrArg Node.leaf h, fun h => by rw [h]; rfl⟩
end Go.Proofs.YtpgalbgonmclaaaGreat
