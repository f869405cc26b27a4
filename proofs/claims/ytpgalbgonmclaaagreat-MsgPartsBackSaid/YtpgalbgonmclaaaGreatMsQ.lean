/- What bytes of packages, proposals, commits and messages are read as, plainly: there and back. No conditions: plain lemmas. -/
import Derived.Test.YtpgalbgonmclaaaGreatMsP
import Derived.Test.YtpgalbgonmclaaaGreatNdJ
namespace Go.Proofs.YtpgalbgonmclaaaGreat
open Go.RowKit
namespace M20
open Wire Nd
theorem nb_app (a b : List UInt8) : nb (a ++ b) = nb a * 256 ^ b.length + nb b := by
  unfold nb
  rw [List.foldl_append, nb_from]; rfl
theorem nb_be : ∀ (k n : Nat), nb (be k n) = n % 256 ^ k
  | 0, n => by simp [be, nb, Nat.mod_one]
  | k + 1, n => by
    rw [be, nb_app, nb_be k, nb1, List.length_singleton, Nat.pow_one, UInt8.toNat_ofNat']
    have h1 : n / 256 % 256 ^ k * 256 + n % 2 ^ 8 = n % (256 * 256 ^ k) := by
      rw [Nat.mod_mul, show (2 : Nat) ^ 8 = 256 from rfl]; omega
    rw [h1, Nat.pow_succ, Nat.mul_comm]
theorem numX_be {k n : Nat} (h : n < 256 ^ k) (r : List UInt8) : numX k (.ok (be k n ++ r)) = (n, .ok r) := by
  have hl := be_length k n
  rw [numX_ok, if_neg (by rw [List.length_append, hl]; omega), List.take_left' hl, List.drop_left' hl, nb_be, Nat.mod_eq_of_lt h]
theorem nb_inj : ∀ {xs ys : List UInt8}, xs.length = ys.length → nb xs = nb ys → xs = ys
  | [], [], _, _ => rfl
  | [], _ :: _, h, _ => by simp at h
  | _ :: _, [], h, _ => by simp at h
  | x :: xs, y :: ys, h, e => by
    have hl : xs.length = ys.length := by simpa using h
    rw [nb_cons, nb_cons, hl] at e
    have h1 := nb_lt xs; have h2 := nb_lt ys
    rw [hl] at h1
    have hp : 0 < 256 ^ ys.length := Nat.pow_pos (by omega)
    have e1 : x.toNat = y.toNat := by
      have := congrArg (· / 256 ^ ys.length) e
      simp only [Nat.mul_comm _ (256 ^ ys.length), Nat.mul_add_div hp, Nat.div_eq_of_lt h1, Nat.div_eq_of_lt h2] at this
      omega
    rw [e1] at e
    rw [UInt8.toNat_inj.1 e1, nb_inj hl (by omega)]
theorem be_nb (b : List UInt8) {k : Nat} (h : b.length = k) : be k (nb b) = b := by
  subst h
  exact nb_inj (be_length _ _) (by rw [nb_be, Nat.mod_eq_of_lt (nb_lt b)])
theorem num_of {k : Nat} {s : St} {r : List UInt8} (h : (numX k s).2 = .ok r) : s = .ok (be k (numX k s).1 ++ r) ∧ (numX k s).1 < 256 ^ k := by
  refine ⟨?_, numX_lt k s⟩
  cases s with
  | error c => cases h
  | ok xs =>
    rw [numX_ok] at h ⊢
    split at h
    · cases h
    · rename_i hl
      rw [if_neg hl]
      injection h with h
      rw [be_nb (xs.take k) (by rw [List.length_take]; omega), ← h, List.take_append_drop]
/-! Each thing in its turn. -/
def badX : St → St
  | .ok _ => .error 3
  | .error c => .error c
def justX (k n : Nat) (s : St) : St := match (numX k s).2 with
  | .ok r => if (numX k s).1 = n then .ok r else .error 3
  | .error c => .error c
def flagX (s : St) : Bool × St := match (numX 1 s).2 with
  | .ok r => if 1 < (numX 1 s).1 then (false, .error 3) else (decide ((numX 1 s).1 = 1), .ok r)
  | .error c => (false, .error c)
def leafI : St → Leaf × St
  | .ok xs => ((leafX (.ok xs)).1.1, if (leafX (.ok xs)).1.2 ≠ 0 then .error (leafX (.ok xs)).1.2 else (leafX (.ok xs)).2)
  | .error c => (Leaf.zero, .error c)
def packX (s : St) : Pack × St :=
  let i := vecX (justX 2 1 (justX 2 1 s))
  let l := leafI i.2
  let g := vecX l.2
  (⟨i.1, l.1, g.1⟩, g.2)
def propX (s : St) : Prop20 × St :=
  let k := numX 1 s
  if k.1 = 1 then (⟨1, (packX k.2).1, Leaf.zero, 0⟩, (packX k.2).2)
  else if k.1 = 2 then (⟨2, Pack.zero, (leafI k.2).1, 0⟩, (leafI k.2).2)
  else if k.1 = 3 then (⟨3, Pack.zero, Leaf.zero, ((numX 4 k.2).1 : Int)⟩, (numX 4 k.2).2)
  else (⟨k.1, Pack.zero, Leaf.zero, 0⟩, badX k.2)
def itemX (s : St) : Item20 × St :=
  let k := numX 1 s
  if k.1 = 1 then (⟨[], (propX k.2).1⟩, (propX k.2).2)
  else if k.1 = 2 then (⟨(vecX k.2).1, Prop20.zero⟩, (vecX k.2).2)
  else (⟨[], Prop20.zero⟩, badX k.2)
/-- What is in a vector, one behind the other. -/
def eachN {α : Type} (f : St → α × St) : Nat → List UInt8 → List α × St
  | 0, ys => ([], .ok ys)
  | _ + 1, [] => ([], .ok [])
  | n + 1, y :: ys => match (f (.ok (y :: ys))).2 with
    | .error c => ([(f (.ok (y :: ys))).1], .error c)
    | .ok r => ((f (.ok (y :: ys))).1 :: (eachN f n r).1, (eachN f n r).2)
def eachX {α : Type} (f : St → α × St) (s : St) : List α × St := match (vecX s).2 with
  | .error c => ([], .error c)
  | .ok r => ((eachN f ((vecX s).1.length) (vecX s).1).1, match (eachN f ((vecX s).1.length) (vecX s).1).2 with
    | .error c => .error c
    | .ok _ => .ok r)
def bxdX (s : St) : Bxd × St := (⟨(vecX s).1, (vecX (vecX s).2).1⟩, (vecX (vecX s).2).2)
def stpX (s : St) : Stp × St := (⟨(vecX s).1, (eachX bxdX (vecX s).2).1⟩, (eachX bxdX (vecX s).2).2)
def comX (s : St) : Com20 × St :=
  let i := eachX itemX s
  let h := flagX i.2
  if h.1 then (⟨i.1, true, ⟨(leafI h.2).1, (eachX stpX (leafI h.2).2).1⟩⟩, (eachX stpX (leafI h.2).2).2)
  else (⟨i.1, false, Way20.zero⟩, h.2)
/-! There. -/
theorem justX_be {k n : Nat} (h : n < 256 ^ k) (r : List UInt8) : justX k n (.ok (be k n ++ r)) = .ok r := by
  unfold justX
  rw [numX_be h]
  exact if_pos rfl
theorem flagX_one (r : List UInt8) : flagX (.ok (1 :: r)) = (true, .ok r) := by
  unfold flagX; rw [num1_cons]; rfl
theorem flagX_no (r : List UInt8) : flagX (.ok (0 :: r)) = (false, .ok r) := by
  unfold flagX; rw [num1_cons]; rfl
theorem leafI_there {l : Leaf} (ok : okLeaf l) (r : List UInt8) : leafI (.ok (leafB l ++ r)) = (l, .ok r) := by
  show ((leafX _).1.1, if (leafX _).1.2 ≠ 0 then _ else (leafX _).2) = _
  rw [leaf_there ok]
  rfl
theorem packX_there {p : Pack} (ok : okPack p) (r : List UInt8) : packX (.ok (packB p ++ r)) = (p, .ok r) := by
  obtain ⟨h1, h2, h3⟩ := ok
  have e : packB p ++ r = be 2 1 ++ (be 2 1 ++ (vec p.init ++ (leafB p.leaf ++ (vec p.sig ++ r)))) := by
    unfold packB packT
    simp only [List.append_assoc]; rfl
  rw [e]
  unfold packX
  simp only [justX_be (k := 2) (n := 1) (by omega), vecX_vec (v := p.init) (by omega), leafI_there h2.1, vecX_vec (v := p.sig) (by omega)]
theorem no_pack {p : Pack} (h : noPack p) : p = Pack.zero := pack_eq.2 ⟨List.eq_nil_of_length_eq_zero h.1, h.2.1, List.eq_nil_of_length_eq_zero h.2.2⟩
theorem no_prop {p : Prop20} (h : noProp p) : p = Prop20.zero := prop_eq.2 ⟨h.1, no_pack h.2.1, h.2.2.1, h.2.2.2⟩
theorem propX_there {p : Prop20} (ok : okProp p) (r : List UInt8) : propX (.ok (propB p ++ r)) = (p, .ok r) := by
  unfold propB
  rw [List.cons_append]
  unfold propX
  rcases ok with ⟨h1, h2, h3, h4⟩ | ⟨h1, h2, h3, h4⟩ | ⟨h1, h2, h3, h4, h5⟩
  · simp only [num1_cons, u8n (n := p.kind) (by omega), h1, if_true, packX_there h2]
    exact Prod.ext (prop_eq.2 ⟨h1.symm, rfl, h3.symm, h4.symm⟩) rfl
  · simp only [num1_cons, u8n (n := p.kind) (by omega), h1, if_true, show (2 : Nat) ≠ 1 by decide, if_false, leafI_there h3.1]
    exact Prod.ext (prop_eq.2 ⟨h1.symm, (no_pack h2).symm, rfl, h4.symm⟩) rfl
  · simp only [num1_cons, u8n (n := p.kind) (by omega), h1, if_true, show (3 : Nat) ≠ 1 by decide, show (3 : Nat) ≠ 2 by decide, if_false]
    rw [numX_be (k := 4) (n := p.at_.toNat) (by omega)]
    exact Prod.ext (prop_eq.2 ⟨h1.symm, (no_pack h2).symm, h3.symm, (by show ((p.at_.toNat : Nat) : Int) = p.at_; omega)⟩) rfl
theorem itemX_there {x : Item20} (ok : okItem x) (r : List UInt8) : itemX (.ok (itmB propB x ++ r)) = (x, .ok r) := by
  unfold itmB
  rcases ok with ⟨h1, h2⟩ | ⟨h1, h2⟩
  · rw [if_pos (by omega), List.cons_append]
    unfold itemX
    simp only [num1_cons, show (2 : UInt8).toNat = 2 from rfl, show (2 : Nat) ≠ 1 by decide, if_true, if_false, vecX_vec (v := x.ref) (by omega)]
    exact Prod.ext (item_eq.2 ⟨rfl, (no_prop h2).symm⟩) rfl
  · rw [if_neg (by omega), List.cons_append]
    unfold itemX
    simp only [num1_cons, show (1 : UInt8).toNat = 1 from rfl, if_true, propX_there h2]
    exact Prod.ext (item_eq.2 ⟨(List.eq_nil_of_length_eq_zero h1).symm, rfl⟩) rfl
theorem eachN_there {α : Type} {f : St → α × St} {g : α → List UInt8} : ∀ {l : List α} {n : Nat}, (∀ x ∈ l, (∀ r, f (.ok (g x ++ r)) = (x, .ok r)) ∧ 0 < (g x).length) → (l.flatMap g).length ≤ n → eachN f n (l.flatMap g) = (l, .ok [])
  | [], n, _, _ => by cases n <;> rfl
  | x :: l, n, h, hn => by
    obtain ⟨h1, h2⟩ := h x List.mem_cons_self
    rw [List.flatMap_cons] at hn ⊢
    rw [List.length_append] at hn
    obtain ⟨y, ys, hy⟩ : ∃ y ys, g x ++ l.flatMap g = y :: ys := by
      cases hg : g x with
      | nil => rw [hg] at h2; simp at h2
      | cons y ys => exact ⟨y, ys ++ l.flatMap g, rfl⟩
    obtain ⟨n, rfl⟩ : ∃ k, n = k + 1 := ⟨n - 1, by omega⟩
    have e := h1 (l.flatMap g)
    have ih := eachN_there (l := l) (n := n) (fun y hy => h y (List.mem_cons_of_mem _ hy)) (by omega)
    rw [hy] at e ⊢
    show (match (f (.ok (y :: ys))).2 with
      | .error c => (([(f (.ok (y :: ys))).1], .error c) : List α × St)
      | .ok r => ((f (.ok (y :: ys))).1 :: (eachN f n r).1, (eachN f n r).2)) = _
    rw [e]
    show (x :: (eachN f n (l.flatMap g)).1, (eachN f n (l.flatMap g)).2) = _
    rw [ih]
theorem eachX_there {α : Type} {f : St → α × St} {g : α → List UInt8} {l : List α} (h : ∀ x ∈ l, (∀ r, f (.ok (g x ++ r)) = (x, .ok r)) ∧ 0 < (g x).length) (hl : (l.flatMap g).length < 1073741824) (r : List UInt8) : eachX f (.ok (vec (l.flatMap g) ++ r)) = (l, .ok r) := by
  unfold eachX
  rw [vecX_vec hl]
  show ((eachN f (l.flatMap g).length (l.flatMap g)).1, _) = _
  rw [eachN_there h (Nat.le_refl _)]
theorem vec_pos (v : List UInt8) : 0 < (vec v).length := by have := Wire.lsz_le v.length; rw [Wire.vec_length]; omega
theorem bxdX_there {b : Bxd} (h : okBxd b) (r : List UInt8) : bxdX (.ok (bxdB b ++ r)) = (b, .ok r) := by
  have h1 := h.1; have h2 := h.2
  unfold bxdB bxdX
  rw [List.append_assoc, vecX_vec (v := b.enc) (by omega)]
  show (Bxd.mk b.enc (vecX (.ok (vec b.box ++ r))).1, (vecX (.ok (vec b.box ++ r))).2) = _
  rw [vecX_vec (v := b.box) (by omega)]
theorem bxdB_pos (b : Bxd) : 0 < (bxdB b).length := by have := vec_pos b.enc; unfold bxdB; rw [List.length_append]; omega
theorem stpX_there {s : Stp} (h : okStp s) (hf : s.Fit) (r : List UInt8) : stpX (.ok (stpB s ++ r)) = (s, .ok r) := by
  have h1 := h.1
  have h4 := flatMap_le (l := s.to) (f := bxdB) (B := 90) fun b hb => bxdB_ok (h.2 b hb)
  have h5 : s.to.length * 90 ≤ 10000 * 90 := Nat.mul_le_mul_right _ hf.2.1
  unfold stpB stpX
  rw [List.append_assoc, vecX_vec (v := s.box) (by omega)]
  show (Stp.mk s.box (eachX bxdX (.ok (vec (s.to.flatMap bxdB) ++ r))).1, (eachX bxdX (.ok (vec (s.to.flatMap bxdB) ++ r))).2) = _
  rw [eachX_there (f := bxdX) (g := bxdB) (fun x hx => ⟨bxdX_there (h.2 x hx), bxdB_pos x⟩) (show (s.to.flatMap bxdB).length < 1073741824 by omega)]
theorem stpB_pos (s : Stp) : 0 < (stpB s).length := by have := vec_pos s.box; unfold stpB; rw [List.length_append]; omega
theorem itmB_pos (x : Item20) : 0 < (itmB propB x).length := by unfold itmB; split <;> simp
theorem comX_there {c : Com20} (ok : okCom c) (hf : c.Fit) (r : List UInt8) : comX (.ok (comB propB c ++ r)) = (c, .ok r) := by
  obtain ⟨h1, h2, h3⟩ := ok
  have i1 := flatMap_le (l := c.items) (f := itmB propB) (B := 501) fun x hx => itmB_ok (h2 x hx)
  have i2 : c.items.length * 501 ≤ 64 * 501 := Nat.mul_le_mul_right _ h1
  unfold comB comX
  rw [List.append_assoc]
  simp only [eachX_there (f := itemX) (g := itmB propB) (fun x hx => ⟨itemX_there (h2 x hx), itmB_pos x⟩) (show (c.items.flatMap (itmB propB)).length < 1073741824 by omega)]
  rcases h3 with ⟨h3, h4⟩ | ⟨h3, h4⟩
  · have j1 := flatMap_le (l := c.way.steps) (f := stpB) (B := 900100) fun x hx => stpB_ok (h4.2.2 x hx) (hf.2.2.2.2 x hx)
    have j2 : c.way.steps.length * 900100 ≤ 16 * 900100 := Nat.mul_le_mul_right _ h4.2.1
    rw [if_pos h3, List.cons_append, List.append_assoc]
    simp only [flagX_one, if_true, leafI_there h4.1.1, eachX_there (f := stpX) (g := stpB) (fun x hx => ⟨stpX_there (h4.2.2 x hx) (hf.2.2.2.2 x hx), stpB_pos x⟩) (show (c.way.steps.flatMap stpB).length < 1073741824 by omega)]
    exact Prod.ext (com_eq.2 ⟨rfl, h3.symm, rfl, rfl⟩) rfl
  · simp only [h3, Bool.false_eq_true, if_false, List.singleton_append, flagX_no]
    exact Prod.ext (com_eq.2 ⟨rfl, h3.symm, h4.1.symm, (List.eq_nil_of_length_eq_zero h4.2).symm⟩) rfl
end M20
end Go.Proofs.YtpgalbgonmclaaaGreat
