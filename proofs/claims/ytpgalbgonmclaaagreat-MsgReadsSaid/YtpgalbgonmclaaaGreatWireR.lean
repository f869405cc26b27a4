/- Bytes that are taken by wire's reader: what each of its functions hands back and leaves. Lengths and vectors that are taken by wire's reader. The reference's lengths, vectors, numbers and flags at a place of bytes. -/
import Derived.Test.YtpgalbgonmclaaaGreatVs
import Derived.Test.YtpgalbgonmclaaaGreatWireA
namespace Go.Proofs.YtpgalbgonmclaaaGreat
section
open Go.RowKit
attribute [local irreducible] Y Ef WL WC WK WQ WM OpM WN WF OpN
namespace Wire
/-- The number that bytes are, the highest first. -/
def nb (xs : List UInt8) : Nat := xs.foldl (fun a x => a * 256 + x.toNat) 0
theorem nb_snoc (xs : List UInt8) (x : UInt8) : nb (xs ++ [x]) = nb xs * 256 + x.toNat := by simp [nb]
theorem nb_from : ∀ (xs : List UInt8) (a : Nat), xs.foldl (fun a x => a * 256 + x.toNat) a = a * 256 ^ xs.length + nb xs
  | [], a => by simp [nb]
  | x :: xs, a => by
    have h1 := nb_from xs (a * 256 + x.toNat)
    have h2 := nb_from xs (0 * 256 + x.toNat)
    unfold nb
    rw [List.foldl_cons, List.foldl_cons, h1, h2, List.length_cons, Nat.pow_succ]
    grind
theorem nb_cons (x : UInt8) (xs : List UInt8) : nb (x :: xs) = x.toNat * 256 ^ xs.length + nb xs := by
  have h := nb_from xs (0 * 256 + x.toNat)
  rw [show (0 * 256 + x.toNat) * 256 ^ xs.length = x.toNat * 256 ^ xs.length by rw [Nat.zero_mul, Nat.zero_add]] at h
  exact h
theorem nb_lt : ∀ xs : List UInt8, nb xs < 256 ^ xs.length
  | [] => by simp [nb]
  | x :: xs => by
    have ih := nb_lt xs
    have hx := UInt8.toNat_lt x
    rw [nb_cons, List.length_cons, Nat.pow_succ]
    have : x.toNat * 256 ^ xs.length ≤ 255 * 256 ^ xs.length := Nat.mul_le_mul_right _ (by omega)
    omega
theorem nb_take_succ {xs : List UInt8} {k : Nat} (h : k < xs.length) : nb (xs.take (k + 1)) = nb (xs.take k) * 256 + (xs.getD k 0).toNat := by
  rw [List.take_succ_eq_append_getElem h, nb_snoc]
  simp [h]
abbrev St := Except Nat (List UInt8)
def ecode : St → Nat
  | .ok _ => 0
  | .error c => c
/-- So many bytes, as they stand. -/
def tk (xs : List UInt8) (e : Nat) (z : Int) : List UInt8 × Bool × List UInt8 × Nat :=
  if e ≠ 0 then ([], false, xs, e) else if z < 0 then ([], false, xs, 1) else if (xs.length : Int) < z then ([], false, xs, 4) else (xs.take z.toNat, true, xs.drop z.toNat, 0)
/-- A length that stands ahead. -/
def pLen : List UInt8 → Except Nat (Nat × List UInt8)
  | [] => .error 4
  | b :: r =>
    if 192 ≤ b.toNat then .error 3
    else
      let s := if b.toNat < 64 then 1 else if b.toNat < 128 then 2 else 4
      if r.length < s - 1 then .error 4
      else
        let n := nb (UInt8.ofNat (b.toNat % 64) :: r.take (s - 1))
        if lsz n = s then .ok (n, r.drop (s - 1)) else .error 3
def pVec (xs : List UInt8) : Except Nat (List UInt8 × List UInt8) :=
  match pLen xs with
  | .error c => .error c
  | .ok (n, r) => if r.length < n then .error 4 else .ok (r.take n, r.drop n)
def pNum (k : Nat) (xs : List UInt8) : Except Nat (Nat × List UInt8) := if xs.length < k then .error 4 else .ok (nb (xs.take k), xs.drop k)
def lenX : St → (Nat × Bool) × St
  | .error c => ((0, false), .error c)
  | .ok xs => match pLen xs with
    | .error c => ((0, false), .error c)
    | .ok (n, r) => ((n, true), .ok r)
def vecX : St → List UInt8 × St
  | .error c => ([], .error c)
  | .ok xs => match pVec xs with
    | .error c => ([], .error c)
    | .ok (v, r) => (v, .ok r)
def numX (k : Nat) : St → Nat × St
  | .error c => (0, .error c)
  | .ok xs => match pNum k xs with
    | .error c => (0, .error c)
    | .ok (v, r) => (v, .ok r)
theorem numX_ok (k : Nat) (xs : List UInt8) : numX k (.ok xs) = if xs.length < k then (0, .error 4) else (nb (xs.take k), .ok (xs.drop k)) := by
  show (match pNum k xs with
    | .error c => ((0, .error c) : Nat × St)
    | .ok (v, r) => (v, .ok r)) = _
  unfold pNum
  by_cases h : xs.length < k
  · rw [if_pos h, if_pos h]
  · rw [if_neg h, if_neg h]
def endX : St → Nat
  | .error c => c
  | .ok [] => 0
  | .ok (_ :: _) => 5
end Wire
open Wire
def rdV (A : Option Addr) (n c e : Nat) : Array Value := #[.slice A n c, .int .u8 (e : Int)]
/-- A reader: what is left of its bytes, and its error. -/
def Rd (N : Nat) (S : List Nat) (w : World) (g : Nat) (xs : List UInt8) (e : Nat) : Prop := ∃ A n c, Blk w g 154 (rdV A n c e) ∧ n ≤ c ∧ g ∈ S ∧ Kp N S (fun w => Bs w A n xs) w
def Rs (N : Nat) (S : List Nat) (w : World) (g : Nat) : St → Prop
  | .ok xs => Rd N S w g xs 0
  | .error c => c ≠ 0 ∧ c < 256 ∧ ∃ xs, Rd N S w g xs c
section
variable {N : Nat} {S S' : List Nat} {w w' : World} {g k e : Nat} {xs : List UInt8} {s : St}
theorem Rd.lt (h : Rd N S w g xs e) : g < w.heap.size := by obtain ⟨A, n, c, B, _⟩ := h; exact B.lt
theorem Rd.mem (h : Rd N S w g xs e) : g ∈ S := by obtain ⟨A, n, c, _, _, m, _⟩ := h; exact m
theorem Rd.ext (h : Rd N S w g xs e) (E : Ext w w') : Rd N S w' g xs e := by obtain ⟨A, n, c, B, hc, m, K⟩ := h; exact ⟨A, n, c, B.ext E, hc, m, K.ext E⟩
theorem Rd.grow (h : Rd N S w g xs e) (E : Ext w w') (hk : w.heap.size ≤ k) : Rd N (k :: S) w' g xs e := by obtain ⟨A, n, c, B, hc, m, K⟩ := h; exact ⟨A, n, c, B.ext E, hc, List.mem_cons_of_mem _ m, K.grow E hk⟩
theorem Rd.chs (h : Rd N S w g xs e) (C : Chs S' w w') (hs : ∀ k ∈ S', k ∈ S := by first | (simp; done) | (simp; assumption)) (hg : g ∉ S' := by first | (simp; done) | (simp; omega)) : Rd N S w' g xs e := by
  obtain ⟨A, n, c, B, hc, m, K⟩ := h; exact ⟨A, n, c, B.chs C hg, hc, m, K.chs C hs⟩
theorem Rd.mono (h : Rd N S w g xs e) (hs : ∀ k ∈ S', k ∈ S) (hg : g ∈ S') : Rd N S' w g xs e := by obtain ⟨A, n, c, B, hc, m, K⟩ := h; exact ⟨A, n, c, B, hc, hg, K.mono hs⟩
theorem Rs.ext (h : Rs N S w g s) (E : Ext w w') : Rs N S w' g s := by
  cases s with
  | ok xs => exact Rd.ext h E
  | error c => obtain ⟨h1, h2, xs, h⟩ := h; exact ⟨h1, h2, xs, h.ext E⟩
theorem Rs.grow (h : Rs N S w g s) (E : Ext w w') (hk : w.heap.size ≤ k) : Rs N (k :: S) w' g s := by
  cases s with
  | ok xs => exact Rd.grow h E hk
  | error c => obtain ⟨h1, h2, xs, h⟩ := h; exact ⟨h1, h2, xs, h.grow E hk⟩
theorem Rs.chs (h : Rs N S w g s) (C : Chs S' w w') (hs : ∀ k ∈ S', k ∈ S := by first | (simp; done) | (simp; assumption)) (hg : g ∉ S' := by first | (simp; done) | (simp; omega)) : Rs N S w' g s := by
  cases s with
  | ok xs => exact Rd.chs h C hs hg
  | error c => obtain ⟨h1, h2, xs, h⟩ := h; exact ⟨h1, h2, xs, h.chs C hs hg⟩
theorem Rs.mono (h : Rs N S w g s) (hs : ∀ k ∈ S', k ∈ S) (hg : g ∈ S') : Rs N S' w g s := by
  cases s with
  | ok xs => exact Rd.mono h hs hg
  | error c => obtain ⟨h1, h2, xs, h⟩ := h; exact ⟨h1, h2, xs, h.mono hs hg⟩
theorem Rd.below {B : Nat} (h : Rd N S w g xs e) (be : Below B w w') (hN : N ≤ B) (hg : g < B) : Rd N S w' g xs e := by
  obtain ⟨A, n, c, B, hc, m, K⟩ := h; exact ⟨A, n, c, B.below be hg, hc, m, K.below be hN⟩
theorem Rs.below {B : Nat} (h : Rs N S w g s) (be : Below B w w') (hN : N ≤ B) (hg : g < B) : Rs N S w' g s := by
  cases s with
  | ok xs => exact Rd.below h be hN hg
  | error c => obtain ⟨h1, h2, xs, h⟩ := h; exact ⟨h1, h2, xs, h.below be hN hg⟩
theorem Rs.lt (h : Rs N S w g s) : g < w.heap.size := by
  cases s with
  | ok xs => exact Rd.lt h
  | error c => obtain ⟨h1, h2, xs, h⟩ := h; exact h.lt
theorem Rs.mem (h : Rs N S w g s) : g ∈ S := by
  cases s with
  | ok xs => exact Rd.mem h
  | error c => obtain ⟨h1, h2, xs, h⟩ := h; exact h.mem
/-- Every state is some bytes and an error. -/
theorem Rs.rd (h : Rs N S w g s) : ∃ xs, Rd N S w g xs (ecode s) ∧ ecode s < 256 ∧ (s = .ok xs ∨ (ecode s ≠ 0 ∧ s = .error (ecode s))) := by
  cases s with
  | ok xs => exact ⟨xs, h, by show 0 < 256; omega, .inl rfl⟩
  | error c => obtain ⟨h1, h2, xs, h⟩ := h; exact ⟨xs, h, h2, .inr ⟨h1, rfl⟩⟩
end
theorem Fb.kk {S : List Nat} {w : World} {A : Option Addr} {n base : Nat} {xs : List UInt8} (h : Fb base w A n xs) (hS : ∀ g ∈ S, g < base) : Kp w.heap.size S (fun w => Fb base w A n xs) w := (h.kp hS).map fun _ hb => ⟨hb, h.2⟩
theorem Fz.kk {S : List Nat} {w : World} {A : Option Addr} {n base : Nat} {xs : List Int} (h : Fz base w A n xs) (hS : ∀ g ∈ S, g < base) : Kp w.heap.size S (fun w => Fz base w A n xs) w := (h.kp hS).map fun _ hb => ⟨hb, h.2⟩
theorem rdV_size (A : Option Addr) (n c e : Nat) : (rdV A n c e).size = 2 := rfl
theorem rdV_set (A : Option Addr) (n c e e' : Nat) {z : Int} (hz : z = (e' : Int)) : (rdV A n c e).setIfInBounds 1 (.int .u8 z) = rdV A n c e' := by subst hz; rfl
theorem rdV_put (A A' : Option Addr) (n c n' c' e : Nat) : (rdV A n c e).setIfInBounds 0 (.slice A' n' c') = rdV A' n' c' e := rfl
theorem newReader_any {N : Nat} {S : List Nat} (A : Option Addr) (n c : Nat) (xs : List UInt8) (w : World) (hc : n ≤ c) (K : Kp N S (fun w => Bs w A n xs) w) :
    Calls Tryz.prog 78 #[.slice A n c] w fun e w' => ∃ g, e = .returned (.pointer (some ⟨g, 0, none⟩)) ∧ w.heap.size ≤ g ∧ Rs N (g :: S) w' g (.ok xs) ∧ Ext w w' := by
  refine vc_enter1 6 Tryz.func78 rfl rfl rfl rfl ?_
  intro Q hret
  refine wc_seq ?_; intro K1 hK1
  refine wc_region ?_
  refine wl_y (y_assign rfl) rfl ?_
  refine wl_nil ?_
  refine wq_then_norm (hK1 ?_)
  refine wc_seq ?_; intro K2 hK2
  refine wc_region ?_
  refine wl_y (y_move rfl) rfl ?_
  refine wl_y (y_build rfl (cells := rdV A n c 0) (by kernel_rfl)) rfl ?_
  refine wl_ef (ef_box rfl rfl) rfl ?_
  rintro _ w1 ⟨g1, rfl, B1, hg1, ex⟩
  skip
  refine wl_y (y_assign rfl) rfl ?_
  refine wl_nil ?_
  refine wq_then_norm (hK2 ?_)
  refine wc_ret ?_
  refine hret rfl ?_
  exact ⟨g1, rfl, hg1, ⟨A, n, c, B1, hc, List.mem_cons_self, K.grow ex hg1⟩, ex⟩
theorem rfail_any {N : Nat} {S : List Nat} {g : Nat} {xs : List UInt8} (c : Nat) (z : Int) (hz : z = (c : Int)) (w : World) (H : Rd N S w g xs 0) :
    Calls Tryz.prog 142 #[.pointer (some ⟨g, 0, none⟩), .int .u8 z] w fun e w' => e = .returned (.tuple #[]) ∧ Rd N S w' g xs c ∧ Chs [g] w w' := by
  obtain ⟨A, n, d, B, hd, m, K⟩ := H
  refine vc_enter0 13 Tryz.func142 rfl rfl rfl rfl ?_
  intro Q hret
  refine wc_seq ?_; intro K1 hK1
  refine wc_region ?_
  refine wl_y (y_move rfl) rfl ?_
  refine wl_y (y_nilp rfl) rfl ?_
  refine wl_y (y_fieldAddr (o := 1) (s := 1) (off := 0) (o' := 1) rfl Tryz.underlying154 rfl (by kernel_rfl) rfl rfl) rfl ?_
  refine wl_y (y_load1 rfl Tryz.underlying28 rfl (B.get (i := 1) rfl)) rfl ?_
  refine wl_y (Y.as (y_eql rfl rfl) (congrArg Value.bool (decide_eq_true rfl))) rfl ?_
  refine wl_nil ?_
  refine wq_then_norm (hK1 ?_)
  refine wc_true rfl rfl ?_
  refine wc_region ?_
  refine wl_y (y_move rfl) rfl ?_
  refine wl_y (y_move rfl) rfl ?_
  refine wl_y (y_nilp rfl) rfl ?_
  refine wl_y (y_fieldAddr (o := 1) (s := 1) (off := 0) (o' := 1) rfl Tryz.underlying154 rfl (by kernel_rfl) rfl rfl) rfl ?_
  refine wl_ef (ef_storeB rfl rfl rfl (by kernel_rfl) B (by rw [rdV_size]; omega)) rfl ?_
  rintro _ w1 ⟨rfl, D, cg⟩
  have ex := Chs.one cg
  rw [rdV_set A n d 0 c hz] at D; replace K := K.chs ex (by simpa using m)
  refine wl_nil ?_
  refine hret (.inr rfl) ?_
  exact ⟨rfl, ⟨A, n, d, D, hd, m, K⟩, ex⟩
theorem rtake_any {N : Nat} {S : List Nat} {g e : Nat} {xs : List UInt8} (z : Int) (w : World) (he : e < 256) (H : Rd N S w g xs e) :
    Calls Tryz.prog 138 #[.pointer (some ⟨g, 0, none⟩), .int .i64 z] w fun r w' => ∃ A n c, r = .returned (.tuple #[.slice A n c, .bool (tk xs e z).2.1]) ∧ n ≤ c ∧ Kp N S (fun w => Bs w A n (tk xs e z).1) w' ∧ Rd N S w' g (tk xs e z).2.2.1 (tk xs e z).2.2.2 ∧ Chs [g] w w' := by
  have H0 := H
  obtain ⟨A, n, d, B, hd, m, K⟩ := H
  have hxl : xs.length = n := K.out.1
  refine vc_enter2 48 Tryz.func138 rfl rfl rfl rfl ?_
  intro Q hret
  refine wc_seq ?_; intro K1 hK1
  refine wc_region ?_
  refine wl_y (y_assign rfl) rfl ?_
  refine wl_y (y_assign rfl) rfl ?_
  refine wl_nil ?_
  refine wq_then_norm (hK1 ?_)
  refine wc_seq ?_; intro K2 hK2
  refine wc_block ?_
  refine wc_seq ?_; intro K3 hK3
  refine wc_region ?_
  refine wl_y (y_move rfl) rfl ?_
  refine wl_y (Y.as (y_eqlp rfl rfl Tryz.underlying125) (show Value.bool _ = .bool false from rfl)) rfl ?_
  refine wl_y (y_move rfl) rfl ?_
  refine wl_gy 10 rfl rfl (y_move rfl) rfl ?_
  refine wl_gy 10 rfl rfl (y_nilp rfl) rfl ?_
  refine wl_gy 10 rfl rfl (y_fieldAddr (o := 1) (s := 1) (off := 0) (o' := 1) rfl Tryz.underlying154 rfl (by kernel_rfl) rfl rfl) rfl ?_
  refine wl_gy 10 rfl rfl (y_load1 rfl Tryz.underlying28 rfl (B.get (i := 1) rfl)) rfl ?_
  refine wl_gyask 10 rfl rfl (y_neq rfl rfl) rfl (fun h1 => ?_) (fun h1 => ?_)
  · skip
    refine wl_y (y_pickf rfl rfl) rfl ?_
    refine wl_y (y_assign rfl) rfl ?_
    refine wl_nil ?_
    refine wq_then_norm (hK3 ?_)
    refine wc_true rfl rfl ?_
    refine wc_seq ?_; intro K4 hK4
    refine wc_region ?_
    refine wl_y (y_assign rfl) rfl ?_
    refine wl_y (y_assign rfl) rfl ?_
    refine wl_nil ?_
    refine wq_then_norm (hK4 ?_)
    refine wc_ret ?_
    refine wq_blk_ret ?_
    refine wq_then_ret ?_
    refine hret rfl rfl ?_
    have hN0 := K.1
    have ht : tk xs e z = ([], false, xs, e) := by unfold tk; rw [if_pos (by omega)]
    rw [ht]
    exact ⟨none, 0, 0, rfl, Nat.le_refl _, Kp.nil _ _ hN0, H0, Chs.refl _ _⟩
  · skip
    refine wl_y (y_pickf rfl rfl) rfl ?_
    refine wl_y (y_assign rfl) rfl ?_
    refine wl_nil ?_
    refine wq_then_norm (hK3 ?_)
    refine wc_false rfl rfl ?_
    refine wc_seq ?_; intro K5 hK5
    obtain rfl : e = 0 := by omega
    refine wc_region ?_
    refine wl_y (y_move rfl) rfl ?_
    refine wl_yask (y_lss rfl rfl) rfl (fun h2 => ?_) (fun h2 => ?_)
    · skip
      refine wl_y (y_assign rfl) rfl ?_
      refine wl_nil ?_
      refine wq_then_norm (hK5 ?_)
      refine wc_true rfl rfl ?_
      refine wc_seq ?_; intro K6 hK6
      refine wc_region ?_
      refine wl_y (y_move rfl) rfl ?_
      refine wl_call Tryz.func142 rfl rfl rfl (rfail_any 1 1 rfl _ H0) rfl ?_
      rintro e w1 ⟨rfl, H1, ex⟩
      refine ⟨_, rfl, ?_⟩
      refine wl_nil ?_
      refine wq_then_norm (hK6 ?_)
      refine wc_seq ?_; intro K7 hK7
      refine wc_region ?_
      refine wl_y (y_assign rfl) rfl ?_
      refine wl_y (y_assign rfl) rfl ?_
      refine wl_nil ?_
      refine wq_then_norm (hK7 ?_)
      refine wc_ret ?_
      refine wq_blk_ret ?_
      refine wq_then_ret ?_
      refine hret rfl rfl ?_
      have hN0 := Nat.le_trans K.1 ex.size
      have ht : tk xs 0 z = ([], false, xs, 1) := by unfold tk; rw [if_neg (by omega), if_pos h2]
      rw [ht]
      exact ⟨none, 0, 0, rfl, Nat.le_refl _, Kp.nil _ _ hN0, H1, ex⟩
    · skip
      refine wl_y (y_assign rfl) rfl ?_
      refine wl_nil ?_
      refine wq_then_norm (hK5 ?_)
      refine wc_false rfl rfl ?_
      refine wc_seq ?_; intro K8 hK8
      refine wc_region ?_
      refine wl_y (y_move rfl) rfl ?_
      refine wl_y (y_move rfl) rfl ?_
      refine wl_y (y_nilp rfl) rfl ?_
      refine wl_y (y_fieldAddr (o := 0) (s := 1) (off := 0) (o' := 0) rfl Tryz.underlying154 rfl (by kernel_rfl) rfl rfl) rfl ?_
      refine wl_y (y_load1 rfl Tryz.underlying22 rfl (B.get (i := 0) rfl)) rfl ?_
      refine wl_y (y_len_slice rfl Tryz.underlying22) rfl ?_
      refine wl_yask (y_gtr rfl rfl) rfl (fun h3 => ?_) (fun h3 => ?_)
      · skip
        refine wl_y (y_assign rfl) rfl ?_
        refine wl_nil ?_
        refine wq_then_norm (hK8 ?_)
        refine wc_true rfl rfl ?_
        refine wc_seq ?_; intro K9 hK9
        refine wc_region ?_
        refine wl_y (y_move rfl) rfl ?_
        refine wl_call Tryz.func142 rfl rfl rfl (rfail_any 4 4 rfl _ H0) rfl ?_
        rintro e w1 ⟨rfl, H1, ex⟩
        refine ⟨_, rfl, ?_⟩
        refine wl_nil ?_
        refine wq_then_norm (hK9 ?_)
        refine wc_seq ?_; intro K10 hK10
        refine wc_region ?_
        refine wl_y (y_assign rfl) rfl ?_
        refine wl_y (y_assign rfl) rfl ?_
        refine wl_nil ?_
        refine wq_then_norm (hK10 ?_)
        refine wc_ret ?_
        refine wq_blk_ret ?_
        refine wq_then_ret ?_
        refine hret rfl rfl ?_
        have hN0 := Nat.le_trans K.1 ex.size
        have ht : tk xs 0 z = ([], false, xs, 4) := by unfold tk; rw [if_neg (by omega), if_neg h2, if_pos (by omega)]
        rw [ht]
        exact ⟨none, 0, 0, rfl, Nat.le_refl _, Kp.nil _ _ hN0, H1, ex⟩
      · skip
        refine wl_y (y_assign rfl) rfl ?_
        refine wl_nil ?_
        refine wq_then_norm (hK8 ?_)
        refine wc_false rfl rfl ?_
        refine wc_skip ?_
        refine wq_blk_norm ?_
        refine wq_then_norm (hK2 ?_)
        refine wc_seq ?_; intro K11 hK11
        obtain ⟨k, rfl⟩ : ∃ k : Nat, z = k := Int.eq_ofNat_of_zero_le (by omega)
        have hkn : k ≤ n := by omega
        refine wc_region ?_
        refine wl_y (y_move rfl) rfl ?_
        refine wl_y (y_nilp rfl) rfl ?_
        refine wl_y (y_fieldAddr (o := 0) (s := 1) (off := 0) (o' := 0) rfl Tryz.underlying154 rfl (by kernel_rfl) rfl rfl) rfl ?_
        refine wl_y (y_load1 rfl Tryz.underlying22 rfl (B.get (i := 0) rfl)) rfl ?_
        refine wl_y (y_move rfl) rfl ?_
        refine wl_y (y_cuth (s := 1) rfl rfl Tryz.underlying22 (by kernel_rfl) (j := k) rfl (by omega)) rfl ?_
        refine wl_y (y_assign rfl) rfl ?_
        refine wl_nil ?_
        refine wq_then_norm (hK11 ?_)
        refine wc_seq ?_; intro K12 hK12
        refine wc_region ?_
        refine wl_y (y_move rfl) rfl ?_
        refine wl_y (y_move rfl) rfl ?_
        refine wl_y (y_nilp rfl) rfl ?_
        refine wl_y (y_fieldAddr (o := 0) (s := 1) (off := 0) (o' := 0) rfl Tryz.underlying154 rfl (by kernel_rfl) rfl rfl) rfl ?_
        refine wl_y (y_load1 rfl Tryz.underlying22 rfl (B.get (i := 0) rfl)) rfl ?_
        refine wl_y (y_move rfl) rfl ?_
        refine wl_y (y_cutl (s := 1) rfl rfl Tryz.underlying22 (by kernel_rfl) (j := k) rfl (by omega)) rfl ?_
        refine wl_y (y_nilp rfl) rfl ?_
        refine wl_y (y_fieldAddr (o := 0) (s := 1) (off := 0) (o' := 0) rfl Tryz.underlying154 rfl (by kernel_rfl) rfl rfl) rfl ?_
        refine wl_ef (ef_storeB rfl rfl rfl (by kernel_rfl) B (by rw [rdV_size]; omega)) rfl ?_
        rintro _ w1 ⟨rfl, D, cg⟩
        have ex := Chs.one cg
        rw [rdV_put] at D; replace K := K.chs ex (by simpa using m)
        refine wl_nil ?_
        refine wq_then_norm (hK12 ?_)
        refine wc_seq ?_; intro K13 hK13
        refine wc_region ?_
        refine wl_y (y_move rfl) rfl ?_
        refine wl_y (y_assign rfl) rfl ?_
        refine wl_y (y_assign rfl) rfl ?_
        refine wl_nil ?_
        refine wq_then_norm (hK13 ?_)
        refine wc_ret ?_
        refine hret rfl rfl ?_
        have ht : tk xs 0 (k : Int) = (xs.take k, true, xs.drop k, 0) := by unfold tk; rw [if_neg (by omega), if_neg h2, if_neg (by omega)]; rfl
        rw [ht]
        exact ⟨A, k, d, rfl, by omega, K.map fun _ h => h.take hkn, ⟨_, _, _, D, by omega, m, K.map fun _ h => h.cutA hkn hd⟩, ex⟩
theorem u64_shl8 {q : Nat} (h : q < 72057594037927936) : IntKind.u64.wrap ((q : Int) * 2 ^ min (8 : Int).toNat IntKind.u64.bits) = ((q * 256 : Nat) : Int) := by
  have e : min (8 : Int).toNat IntKind.u64.bits = 8 := rfl
  rw [e]
  exact IntWalk.u64_in _ ⟨by omega, by omega⟩
theorem or_low {q x : Nat} (h : x < 256) : (q * 256 ||| x) = q * 256 + x := by
  rw [Nat.mul_comm, show 256 = 2 ^ 8 from rfl, Nat.two_pow_add_eq_or_of_lt (by omega)]
theorem number_any (A : Option Addr) (n c : Nat) (xs : List UInt8) (w : World) (HA : Bs w A n xs) (hn : n ≤ 8) :
    Calls Tryz.prog 139 #[.slice A n c] w fun e w' => e = .returned (.int .u64 ((nb xs : Nat) : Int)) ∧ Ext w w' := by
  have hxl := HA.1
  refine vc_enter1 19 Tryz.func139 rfl rfl rfl rfl ?_
  intro Q hret
  refine wc_seq ?_; intro K1 hK1
  refine wc_region ?_
  refine wl_y (y_assign rfl) rfl ?_
  refine wl_nil ?_
  refine wq_then_norm (hK1 ?_)
  refine wc_seq ?_; intro K2 hK2
  refine wc_region ?_
  refine wl_y (y_assign rfl) rfl ?_
  refine wl_nil ?_
  refine wq_then_norm (hK2 ?_)
  refine wc_seq ?_; intro K3 hK3
  refine wc_seq ?_; intro K4 hK4
  refine wc_region ?_
  refine wl_y (y_move rfl) rfl ?_
  refine wl_y (y_len_slice rfl Tryz.underlying22) rfl ?_
  refine wl_y (y_move rfl) rfl ?_
  refine wl_nil ?_
  refine wq_then_norm (hK4 ?_)
  refine wc_block ?_
  refine wc_loop (fun n' L wr => ∃ (k : Nat), L = [(3, .int .u64 ((nb (xs.take k) : Nat) : Int)), (6, .slice A n c), (7, .int .i64 (n : Int)), (8, .int .i64 (k : Int))] ∧ n' = n - k ∧ (k ≤ n ∧ Ext w wr)) _ _ ⟨0, rfl, rfl, by omega, Ext.refl _⟩ ⟨(by first | rfl | exact congrArg some (int_val (by omega))), rfl, (by first | rfl | exact congrArg some (int_val (by omega))), (by first | rfl | exact congrArg some (int_val (by omega))), trivial⟩ ?_
  rintro KL1 n' L wr ⟨k, rfl, rfl, hk, E⟩ hL1
  refine wc_seq ?_; intro K5 hK5
  refine wc_region ?_
  refine wl_y (y_lss rfl rfl) rfl ?_
  refine wl_nil ?_
  refine wq_then_norm (hK5 ?_)
  refine wc_seq ?_; intro K6 hK6
  refine wc_dec rfl (fun hc1 => ?_) (fun hc1 => ?_)
  · skip
    refine wc_skip ?_
    refine wq_then_norm (hK6 ?_)
    refine wc_seq ?_; intro K7 hK7
    refine wc_block ?_
    refine wc_seq ?_; intro K8 hK8
    have hkn : k < n := by omega
    obtain ⟨b, off, rfl, _, hc⟩ := (HA.ext E).get hkn
    have hx8 := UInt8.toNat_lt (xs.getD k 0)
    have hlt := nb_lt (xs.take k)
    have hle : 256 ^ (xs.take k).length ≤ 256 ^ 7 := Nat.pow_le_pow_right (by omega) (by rw [List.length_take]; omega)
    have h56 : nb (xs.take k) < 72057594037927936 := Nat.lt_of_lt_of_le hlt hle
    have hs := nb_take_succ (xs := xs) (k := k) (by omega)
    refine wc_region ?_
    refine wl_y (y_ixs1 rfl rfl Tryz.underlying22 (by kernel_rfl) rfl (by omega)) rfl ?_
    refine wl_y (y_load1 rfl Tryz.underlying5 rfl hc) rfl ?_
    refine wl_y (y_assign rfl) rfl ?_
    refine wl_nil ?_
    refine wq_then_norm (hK8 ?_)
    refine wc_region ?_
    refine wl_y (y_move rfl) rfl ?_
    refine wl_y (y_shl rfl rfl (by omega) (u64_shl8 h56)) rfl ?_
    refine wl_y (y_move rfl) rfl ?_
    refine wl_y (y_conv rfl Tryz.underlying5 Tryz.underlying53 (IntWalk.u64_in _ ⟨by omega, by omega⟩)) rfl ?_
    refine wl_y (y_or rfl rfl (by rw [(bits_u64 (by omega) (by omega)).2.1, or_low hx8])) rfl ?_
    refine wl_y (y_assign rfl) rfl ?_
    refine wl_nil ?_
    refine wq_blk_norm ?_
    refine wq_then_norm (hK7 ?_)
    refine wc_region ?_
    refine wl_y (y_add rfl rfl (i64_ok (by omega) (by omega))) rfl ?_
    refine wl_y (y_move rfl) rfl ?_
    refine wl_nil ?_
    refine wq_then_norm ?_
    refine hL1 _ _ ⟨k + 1, rfl, rfl, by omega, E⟩ (by omega) ⟨(by first | rfl | exact congrArg some (int_val (by omega))), rfl, (by first | rfl | exact congrArg some (int_val (by omega))), (by first | rfl | exact congrArg some (int_val (by omega))), trivial⟩
  · skip
    refine wc_exit ?_
    refine wq_then_exit ?_
    refine wq_then_exit ?_
    refine wq_blk_hit ?_
    refine wq_then_norm (hK3 ?_)
    refine wc_seq ?_; intro K9 hK9
    refine wc_region ?_
    refine wl_y (y_move rfl) rfl ?_
    refine wl_y (y_assign rfl) rfl ?_
    refine wl_nil ?_
    refine wq_then_norm (hK9 ?_)
    refine wc_ret ?_
    refine hret rfl ?_
    obtain rfl : k = n := by omega
    rw [List.take_of_length_le (by omega)]
    exact ⟨rfl, E⟩
theorem tk_short {xs : List UInt8} {e k : Nat} : (tk xs e (k : Int)).1.length ≤ k := by
  unfold tk
  split
  · simp
  · split
    · simp
    · split
      · simp
      · simp; omega
theorem rs_num {s : St} {xs : List UInt8} (k : Nat) (h : s = .ok xs ∨ (ecode s ≠ 0 ∧ s = .error (ecode s))) (he : ecode s < 256) :
    nb (tk xs (ecode s) (k : Int)).1 = (numX k s).1 ∧ ∀ N S w g, Rd N S w g (tk xs (ecode s) (k : Int)).2.2.1 (tk xs (ecode s) (k : Int)).2.2.2 → Rs N S w g (numX k s).2 := by
  rcases h with rfl | ⟨h0, h1⟩
  · show nb (tk xs 0 (k : Int)).1 = _ ∧ ∀ N S w g, Rd N S w g (tk xs 0 (k : Int)).2.2.1 (tk xs 0 (k : Int)).2.2.2 → _
    rw [numX_ok]
    unfold tk
    rw [if_neg (by omega), if_neg (by omega)]
    by_cases hl : xs.length < k
    · rw [if_pos (by omega), if_pos hl]
      exact ⟨rfl, fun N S w g h => ⟨by omega, by omega, _, h⟩⟩
    · rw [if_neg (by omega), if_neg hl]
      exact ⟨rfl, fun N S w g h => h⟩
  · generalize ecode s = c at *
    subst h1
    have ht : tk xs c (k : Int) = ([], false, xs, c) := by unfold tk; rw [if_pos h0]
    rw [ht]
    exact ⟨rfl, fun N S w g h => ⟨h0, he, _, h⟩⟩
theorem rnum_any {N : Nat} {S : List Nat} {g : Nat} {s : St} (k : Nat) (z : Int) (hz : z = (k : Int)) (w : World) (hk : k = 1 ∨ k = 2 ∨ k = 4 ∨ k = 8) (H0 : Rs N S w g s) :
    Calls Tryz.prog 118 #[.pointer (some ⟨g, 0, none⟩), .int .i64 z] w fun e w' => e = .returned (.int .u64 (((numX k s).1 : Nat) : Int)) ∧ Rs N S w' g (numX k s).2 ∧ Chs [g] w w' := by
  subst hz
  obtain ⟨xs, H, he, hs⟩ := H0.rd
  have hk8 : k ≤ 8 := by omega
  have F := Chs.refl [g] w
  obtain ⟨q1, q2⟩ := rs_num k hs he
  refine vc_enter1 18 Tryz.func118 rfl rfl rfl rfl ?_
  intro Q hret
  refine wc_seq ?_; intro K1 hK1
  refine wc_region ?_
  refine wl_y (y_assign rfl) rfl ?_
  refine wl_nil ?_
  refine wq_then_norm (hK1 ?_)
  refine wc_seq ?_; intro K2 hK2
  refine wc_seq ?_; intro K3 hK3
  refine wc_region ?_
  refine wl_y (y_move rfl) rfl ?_
  refine wl_call Tryz.func133 rfl rfl rfl (may_any k _) rfl ?_
  rintro e w1 ⟨rfl, ex⟩
  refine ⟨_, rfl, ?_⟩
  replace H := H.ext ex
  replace F := F.ext ex
  rw [decide_eq_true hk]
  refine wl_y (y_not rfl) rfl ?_
  refine wl_nil ?_
  refine wq_then_norm (hK3 ?_)
  refine wc_false rfl rfl ?_
  refine wc_skip ?_
  refine wq_then_norm (hK2 ?_)
  refine wc_seq ?_; intro K4 hK4
  refine wc_region ?_
  refine wl_y (y_move rfl) rfl ?_
  refine wl_y (y_move rfl) rfl ?_
  refine wl_call Tryz.func138 rfl rfl rfl (rtake_any (k : Int) _ he H) rfl ?_
  rintro e w2 ⟨A2, n2, c2, rfl, hc2, K2, H2, ex⟩
  refine ⟨_, rfl, ?_⟩
  replace F := F.chs ex
  have hn2 : n2 ≤ k := (K2.out.1 ▸ tk_short)
  refine wl_y (y_move rfl) rfl ?_
  refine wl_y (y_extract rfl rfl) rfl ?_
  refine wl_y (y_extract rfl rfl) rfl ?_
  refine wl_y (y_assign rfl) rfl ?_
  refine wl_y (y_assign rfl) rfl ?_
  refine wl_nil ?_
  refine wq_then_norm (hK4 ?_)
  refine wc_seq ?_; intro K5 hK5
  refine wc_region ?_
  refine wl_y (y_move rfl) rfl ?_
  refine wl_call Tryz.func139 rfl rfl rfl (number_any A2 n2 c2 _ _ K2.out (by omega)) rfl ?_
  rintro e w3 ⟨rfl, ex⟩
  refine ⟨_, rfl, ?_⟩
  replace F := F.ext ex
  replace H2 := H2.ext ex
  rw [q1]
  refine wl_y (y_assign rfl) rfl ?_
  refine wl_nil ?_
  refine wq_then_norm (hK5 ?_)
  refine wc_ret ?_
  refine hret rfl ?_
  exact ⟨rfl, q2 _ _ _ _ H2, F⟩
theorem numX_lt (k : Nat) (s : St) : (numX k s).1 < 256 ^ k := by
  have hp := Nat.pow_pos (n := k) (show 0 < 256 by omega)
  cases s with
  | error c => exact hp
  | ok xs =>
    rw [numX_ok]
    split
    · exact hp
    · have := nb_lt (xs.take k)
      rw [List.length_take, Nat.min_eq_left (by omega)] at this
      exact this
theorem rErr_any {N : Nat} {S : List Nat} {g : Nat} {s : St} (w : World) (H0 : Rs N S w g s) :
    Calls Tryz.prog 115 #[.pointer (some ⟨g, 0, none⟩)] w fun e w' => e = .returned (.int .u8 ((ecode s : Nat) : Int)) ∧ Ext w w' := by
  obtain ⟨xs, H, he, hs⟩ := H0.rd
  obtain ⟨A, n, d, B, hd, m, K⟩ := H
  refine vc_enter1 9 Tryz.func115 rfl rfl rfl rfl ?_
  intro Q hret
  refine wc_seq ?_; intro K1 hK1
  refine wc_region ?_
  refine wl_y (y_assign rfl) rfl ?_
  refine wl_nil ?_
  refine wq_then_norm (hK1 ?_)
  refine wc_seq ?_; intro K2 hK2
  refine wc_seq ?_; intro K3 hK3
  refine wc_region ?_
  refine wl_y (y_move rfl) rfl ?_
  refine wl_y (Y.as (y_eqlp rfl rfl Tryz.underlying125) (show Value.bool _ = .bool false from rfl)) rfl ?_
  refine wl_nil ?_
  refine wq_then_norm (hK3 ?_)
  refine wc_false rfl rfl ?_
  refine wc_skip ?_
  refine wq_then_norm (hK2 ?_)
  refine wc_seq ?_; intro K4 hK4
  refine wc_region ?_
  refine wl_y (y_move rfl) rfl ?_
  refine wl_y (y_nilp rfl) rfl ?_
  refine wl_y (y_fieldAddr (o := 1) (s := 1) (off := 0) (o' := 1) rfl Tryz.underlying154 rfl (by kernel_rfl) rfl rfl) rfl ?_
  refine wl_y (y_load1 rfl Tryz.underlying28 rfl (B.get (i := 1) rfl)) rfl ?_
  refine wl_y (y_assign rfl) rfl ?_
  refine wl_nil ?_
  refine wq_then_norm (hK4 ?_)
  refine wc_ret ?_
  refine hret rfl ?_
  exact ⟨rfl, Ext.refl _⟩
theorem rLeft_any {N : Nat} {S : List Nat} {g e : Nat} {xs : List UInt8} (w : World) (H : Rd N S w g xs e) :
    Calls Tryz.prog 113 #[.pointer (some ⟨g, 0, none⟩)] w fun r w' => r = .returned (.int .i64 (xs.length : Int)) ∧ Ext w w' := by
  obtain ⟨A, n, d, B, hd, m, K⟩ := H
  have hl := K.out.1
  refine vc_enter1 10 Tryz.func113 rfl rfl rfl rfl ?_
  intro Q hret
  refine wc_seq ?_; intro K1 hK1
  refine wc_region ?_
  refine wl_y (y_assign rfl) rfl ?_
  refine wl_nil ?_
  refine wq_then_norm (hK1 ?_)
  refine wc_seq ?_; intro K2 hK2
  refine wc_seq ?_; intro K3 hK3
  refine wc_region ?_
  refine wl_y (y_move rfl) rfl ?_
  refine wl_y (Y.as (y_eqlp rfl rfl Tryz.underlying125) (show Value.bool _ = .bool false from rfl)) rfl ?_
  refine wl_nil ?_
  refine wq_then_norm (hK3 ?_)
  refine wc_false rfl rfl ?_
  refine wc_skip ?_
  refine wq_then_norm (hK2 ?_)
  refine wc_seq ?_; intro K4 hK4
  refine wc_region ?_
  refine wl_y (y_move rfl) rfl ?_
  refine wl_y (y_nilp rfl) rfl ?_
  refine wl_y (y_fieldAddr (o := 0) (s := 1) (off := 0) (o' := 0) rfl Tryz.underlying154 rfl (by kernel_rfl) rfl rfl) rfl ?_
  refine wl_y (y_load1 rfl Tryz.underlying22 rfl (B.get (i := 0) rfl)) rfl ?_
  refine wl_y (y_len_slice rfl Tryz.underlying22) rfl ?_
  refine wl_y (y_assign rfl) rfl ?_
  refine wl_nil ?_
  refine wq_then_norm (hK4 ?_)
  refine wc_ret ?_
  refine hret rfl ?_
  exact ⟨by rw [hl], Ext.refl _⟩
theorem rEnd_any {N : Nat} {S : List Nat} {g : Nat} {s : St} (w : World) (H : Rs N S w g s) :
    Calls Tryz.prog 80 #[.pointer (some ⟨g, 0, none⟩)] w fun e w' => e = .returned (.int .u8 ((endX s : Nat) : Int)) ∧ Ext w w' := by
  have E := Ext.refl w
  refine vc_enter1 15 Tryz.func80 rfl rfl rfl rfl ?_
  intro Q hret
  refine wc_seq ?_; intro K1 hK1
  refine wc_region ?_
  refine wl_y (y_assign rfl) rfl ?_
  refine wl_nil ?_
  refine wq_then_norm (hK1 ?_)
  refine wc_seq ?_; intro K2 hK2
  refine wc_seq ?_; intro K3 hK3
  refine wc_region ?_
  refine wl_y (y_move rfl) rfl ?_
  refine wl_call Tryz.func115 rfl rfl rfl (rErr_any _ H) rfl ?_
  rintro e w1 ⟨rfl, ex⟩
  refine ⟨_, rfl, ?_⟩
  replace H := H.ext ex
  replace E := E.ext ex
  skip
  refine wl_y (y_assign rfl) rfl ?_
  refine wl_nil ?_
  refine wq_then_norm (hK3 ?_)
  refine wc_seq ?_; intro K4 hK4
  refine wc_region ?_
  refine wl_y (y_move rfl) rfl ?_
  refine wl_y (y_neq rfl rfl) rfl ?_
  refine wl_nil ?_
  refine wq_then_norm (hK4 ?_)
  refine wc_dec rfl (fun hc1 => ?_) (fun hc1 => ?_)
  · skip
    have hs : endX s = ecode s := by cases s with
      | ok xs => exact absurd rfl hc1
      | error c => rfl
    refine wc_seq ?_; intro K5 hK5
    refine wc_region ?_
    refine wl_y (y_move rfl) rfl ?_
    refine wl_y (y_assign rfl) rfl ?_
    refine wl_nil ?_
    refine wq_then_norm (hK5 ?_)
    refine wc_ret ?_
    refine wq_then_ret ?_
    refine hret rfl ?_
    exact ⟨by rw [hs], E⟩
  · skip
    refine wc_skip ?_
    refine wq_then_norm (hK2 ?_)
    refine wc_seq ?_; intro K6 hK6
    refine wc_seq ?_; intro K7 hK7
    obtain ⟨xs, rfl⟩ : ∃ xs, s = .ok xs := by
      cases s with
      | ok xs => exact ⟨xs, rfl⟩
      | error c => exact absurd H.1 (fun h => h (by have h2 : ¬ ((c : Nat) : Int) ≠ 0 := hc1; omega))
    obtain ⟨A, n, d, B, hd, m, K⟩ := H
    have hl := K.out.1
    refine wc_region ?_
    refine wl_y (y_move rfl) rfl ?_
    refine wl_y (y_nilp rfl) rfl ?_
    refine wl_y (y_fieldAddr (o := 0) (s := 1) (off := 0) (o' := 0) rfl Tryz.underlying154 rfl (by kernel_rfl) rfl rfl) rfl ?_
    refine wl_y (y_load1 rfl Tryz.underlying22 rfl (B.get (i := 0) rfl)) rfl ?_
    refine wl_y (y_len_slice rfl Tryz.underlying22) rfl ?_
    refine wl_y (y_gtr rfl rfl) rfl ?_
    refine wl_nil ?_
    refine wq_then_norm (hK7 ?_)
    refine wc_dec rfl (fun hc2 => ?_) (fun hc2 => ?_)
    · skip
      refine wc_seq ?_; intro K8 hK8
      refine wc_region ?_
      refine wl_y (y_assign rfl) rfl ?_
      refine wl_nil ?_
      refine wq_then_norm (hK8 ?_)
      refine wc_ret ?_
      refine wq_then_ret ?_
      refine hret rfl ?_
      exact ⟨by cases xs with
        | nil => exfalso; simp at hl; omega
        | cons x xs => rfl, E⟩
    · skip
      refine wc_skip ?_
      refine wq_then_norm (hK6 ?_)
      refine wc_seq ?_; intro K9 hK9
      refine wc_region ?_
      refine wl_y (y_assign rfl) rfl ?_
      refine wl_nil ?_
      refine wq_then_norm (hK9 ?_)
      refine wc_ret ?_
      refine hret rfl ?_
      exact ⟨by cases xs with
        | nil => rfl
        | cons x xs => exfalso; simp at hl; omega, E⟩
theorem rTake_any {N : Nat} {S : List Nat} {g e : Nat} {xs : List UInt8} (z : Int) (w : World) (he : e < 256) (hz : z ≤ 35184372088832) (H : Rd N S w g xs e) :
    Calls Tryz.prog 135 #[.pointer (some ⟨g, 0, none⟩), .int .i64 z] w fun r w' => ∃ A n c, r = .returned (.slice A n c) ∧ n ≤ c ∧ Fb w.heap.size w' A n (tk xs e z).1 ∧ Rd N S w' g (tk xs e z).2.2.1 (tk xs e z).2.2.2 ∧ Chs [g] w w' := by
  have F := Chs.refl [g] w
  refine vc_enter1 15 Tryz.func135 rfl rfl rfl rfl ?_
  intro Q hret
  refine wc_seq ?_; intro K1 hK1
  refine wc_region ?_
  refine wl_y (y_assign rfl) rfl ?_
  refine wl_nil ?_
  refine wq_then_norm (hK1 ?_)
  refine wc_seq ?_; intro K2 hK2
  refine wc_region ?_
  refine wl_y (y_move rfl) rfl ?_
  refine wl_y (y_move rfl) rfl ?_
  refine wl_call Tryz.func138 rfl rfl rfl (rtake_any z _ he H) rfl ?_
  rintro e w1 ⟨A1, n1, c1, rfl, hc1, K1, H1, ex⟩
  refine ⟨_, rfl, ?_⟩
  replace F := F.chs ex
  refine wl_y (y_move rfl) rfl ?_
  refine wl_y (y_extract rfl rfl) rfl ?_
  refine wl_y (y_extract rfl rfl) rfl ?_
  refine wl_y (y_assign rfl) rfl ?_
  refine wl_y (y_assign rfl) rfl ?_
  refine wl_nil ?_
  refine wq_then_norm (hK2 ?_)
  refine wc_seq ?_; intro K3 hK3
  refine wc_region ?_
  refine wl_y (y_move rfl) rfl ?_
  have hn1 : n1 ≤ 35184372088832 := by
    have h := K1.out.1
    have : (tk xs e z).1.length ≤ z.toNat := by
      unfold tk
      split
      · simp
      · split
        · simp
        · split
          · simp
          · simp; omega
    omega
  have hz1 := F.size
  refine wl_call Tryz.func148 rfl rfl rfl (bclone3_any A1 n1 c1 _ _ K1.out hn1) rfl ?_
  rintro e w2 ⟨A2, c2, rfl, hcap2, HB2, hb2, ex⟩
  refine ⟨_, rfl, ?_⟩
  replace F := F.ext ex
  replace H1 := H1.ext ex
  skip
  refine wl_y (y_assign rfl) rfl ?_
  refine wl_nil ?_
  refine wq_then_norm (hK3 ?_)
  refine wc_ret ?_
  refine hret rfl ?_
  exact ⟨A2, n1, c2, rfl, hcap2, ⟨HB2, fun _ b o h => Nat.le_trans hz1 (hb2 b o h)⟩, H1, F⟩
end
section
open Go.RowKit
attribute [local irreducible] Y Ef WL WC WK WQ WM OpM WN WF OpN
open Wire
namespace Wire
theorem tk_nat (xs : List UInt8) (k : Nat) {z : Int} (hz : z = (k : Int)) : tk xs 0 z = if xs.length < k then ([], false, xs, 4) else (xs.take k, true, xs.drop k, 0) := by
  subst hz
  unfold tk
  rw [if_neg (by omega), if_neg (by omega)]
  by_cases h : xs.length < k
  · rw [if_pos (by omega), if_pos h]
  · rw [if_neg (by omega), if_neg h]; rfl
theorem tk1_no {s : St} {xs : List UInt8} (h : s = .ok xs ∨ (ecode s ≠ 0 ∧ s = .error (ecode s))) (he : ecode s < 256) (hn : (tk xs (ecode s) 1).2.1 = false) :
    ∃ c, lenX s = ((0, false), .error c) ∧ (tk xs (ecode s) 1).2.2.2 = c ∧ c ≠ 0 ∧ c < 256 := by
  rcases h with rfl | ⟨h0, h1⟩
  · have e : tk xs (ecode (.ok xs)) 1 = tk xs 0 1 := rfl
    rw [e, tk_nat xs 1 (z := 1) rfl] at hn ⊢
    cases xs with
    | nil => exact ⟨4, rfl, rfl, by omega, by omega⟩
    | cons b r => rw [if_neg (by simp)] at hn; cases hn
  · generalize ecode s = c at *
    subst h1
    exact ⟨c, rfl, by unfold tk; rw [if_pos h0], h0, he⟩
theorem tk1_yes {s : St} {xs : List UInt8} (h : s = .ok xs ∨ (ecode s ≠ 0 ∧ s = .error (ecode s))) (hn : (tk xs (ecode s) 1).2.1 = true) :
    ∃ b r, s = .ok (b :: r) ∧ tk xs (ecode s) 1 = ([b], true, r, 0) := by
  rcases h with rfl | ⟨h0, h1⟩
  · have e : tk xs (ecode (.ok xs)) 1 = tk xs 0 1 := rfl
    rw [e, tk_nat xs 1 (z := 1) rfl] at hn ⊢
    cases xs with
    | nil => rw [if_pos (by simp)] at hn; cases hn
    | cons b r => exact ⟨b, r, rfl, by rw [if_neg (by simp)]; rfl⟩
  · have : tk xs (ecode s) 1 = ([], false, xs, ecode s) := by unfold tk; rw [if_pos h0]
    rw [this] at hn; cases hn
theorem pLen_cons (b : UInt8) (r : List UInt8) : pLen (b :: r) = if 192 ≤ b.toNat then .error 3 else
      let s := if b.toNat < 64 then 1 else if b.toNat < 128 then 2 else 4
      if r.length < s - 1 then .error 4
      else
        let n := nb (UInt8.ofNat (b.toNat % 64) :: r.take (s - 1))
        if lsz n = s then .ok (n, r.drop (s - 1)) else .error 3 := rfl
theorem pLen_big {b : UInt8} {r : List UInt8} (h : 192 ≤ b.toNat) : pLen (b :: r) = .error 3 := by
  rw [pLen_cons, if_pos h]
theorem pLen_of {b : UInt8} {r : List UInt8} {s : Nat} (h : ¬ 192 ≤ b.toNat) (hs : s = 2 ^ (b.toNat / 64)) : pLen (b :: r) = if r.length < s - 1 then .error 4 else if lsz (nb (UInt8.ofNat (b.toNat % 64) :: r.take (s - 1))) = s then .ok (nb (UInt8.ofNat (b.toNat % 64) :: r.take (s - 1)), r.drop (s - 1)) else .error 3 := by
  have e : (if b.toNat < 64 then 1 else if b.toNat < 128 then 2 else 4) = s := by
    rw [hs]
    by_cases h1 : b.toNat < 64
    · rw [if_pos h1, show b.toNat / 64 = 0 by omega]
    · rw [if_neg h1]
      by_cases h2 : b.toNat < 128
      · rw [if_pos h2, show b.toNat / 64 = 1 by omega]
      · rw [if_neg h2, show b.toNat / 64 = 2 by omega]
  rw [pLen_cons, if_neg h]
  simp only [e]
theorem lenX_ok (xs : List UInt8) : lenX (.ok xs) = match pLen xs with
    | .error c => ((0, false), .error c)
    | .ok (n, r) => ((n, true), .ok r) := rfl
theorem and63 : ∀ x : Fin 256, bits .and .u8 ((x.val : Nat) : Int) 63 = ((x.val % 64 : Nat) : Int) := by decide +kernel
theorem nb_len_lt {b : UInt8} {t : List UInt8} (h : t.length ≤ 3) : nb (UInt8.ofNat (b.toNat % 64) :: t) < 1073741824 := by
  have hx : (UInt8.ofNat (b.toNat % 64)).toNat = b.toNat % 64 := by rw [UInt8.toNat_ofNat']; omega
  have hl := nb_lt t
  rw [nb_cons, hx]
  match t, h with
  | [], _ => simp [nb]; try omega
  | [x], _ => simp at hl ⊢; omega
  | [x, y], _ => simp at hl ⊢; omega
  | [x, y, z], _ => simp at hl ⊢; omega
  | x :: y :: z :: u :: t, h => simp at h
end Wire
theorem rlength_any {N : Nat} {S : List Nat} {g : Nat} {s : St} (w : World) (H0 : Rs N S w g s) :
    Calls Tryz.prog 134 #[.pointer (some ⟨g, 0, none⟩)] w fun e w' => e = .returned (.tuple #[.int .i64 (((lenX s).1.1 : Nat) : Int), .bool (lenX s).1.2]) ∧ Rs N S w' g (lenX s).2 ∧ Chs [g] w w' := by
  obtain ⟨xs, H, he, hs⟩ := H0.rd
  have hgS := H.mem
  have F := Chs.refl [g] w
  refine vc_enter2 56 Tryz.func134 rfl rfl rfl rfl ?_
  intro Q hret
  refine wc_seq ?_; intro K1 hK1
  refine wc_region ?_
  refine wl_y (y_assign rfl) rfl ?_
  refine wl_y (y_assign rfl) rfl ?_
  refine wl_nil ?_
  refine wq_then_norm (hK1 ?_)
  refine wc_scope2 0 (fun n' L wr => ∃ (j sz b1 o1 c1 : Nat) (b : UInt8) (r : List UInt8), L = [(0, .pointer (some ⟨g, 0, none⟩)), (4, .slice (some ⟨b1, o1, none⟩) 1 c1), (6, .int .i64 (sz : Int)), (7, .int .u8 (j : Int))] ∧ n' = 1 + j ∧ (s = .ok (b :: r) ∧ j ≤ b.toNat / 64 ∧ sz = 2 ^ (b.toNat / 64 - j) ∧ Chs [g] w wr ∧ Rd N S wr g r 0 ∧ Kp N S (fun w => Bs w (some ⟨b1, o1, none⟩) 1 [b]) wr)) rfl ?_ ?_
  · rintro G n' L wr ⟨j, sz, b1, o1, c1, b, r, rfl, rfl, rfl, hj, hsz, F, H1, K1⟩ hG0
    refine wc_seq ?_; intro K2 hK2
    refine wc_seq ?_; intro K3 hK3
    have hb8 := UInt8.toNat_lt b
    have hsz8 : sz ≤ 8 := by rw [hsz]; exact Nat.pow_le_pow_right (n := 2) (by omega) (show b.toNat / 64 - j ≤ 3 by omega)
    have hsz1 : 1 ≤ sz := by rw [hsz]; exact Nat.pow_pos (by omega)
    refine wc_region ?_
    refine wl_y (y_move rfl) rfl ?_
    refine wl_y (y_gtr rfl rfl) rfl ?_
    refine wl_nil ?_
    refine wq_then_norm (hK3 ?_)
    refine wc_dec rfl (fun hc2 => ?_) (fun hc2 => ?_)
    · skip
      refine wc_seq ?_; intro K4 hK4
      have h2 : 2 ^ (b.toNat / 64 - (j - 1)) = sz * 2 := by rw [hsz, ← Nat.pow_succ]; congr 1; omega
      refine wc_region ?_
      refine wl_y (y_move rfl) rfl ?_
      refine wl_y (y_mul rfl rfl (i64_ok (by omega) (by omega))) rfl ?_
      refine wl_y (y_assign rfl) rfl ?_
      refine wl_nil ?_
      refine wq_then_norm (hK4 ?_)
      refine wc_seq ?_; intro K5 hK5
      refine wc_region ?_
      refine wl_y (y_move rfl) rfl ?_
      refine wl_y (y_sub rfl rfl (IntWalk.u8_in _ ⟨by omega, by omega⟩)) rfl ?_
      refine wl_y (y_assign rfl) rfl ?_
      refine wl_nil ?_
      refine wq_then_norm (hK5 ?_)
      refine wc_goto ?_
      refine wq_then_goto ?_
      refine wq_jump_hit ?_
      refine hG0 _ _ ⟨j - 1, sz * 2, b1, o1, c1, b, r, rfl, rfl, rfl, by omega, by rw [h2], F, H1, K1⟩ (by omega) ⟨rfl, rfl, (by first | rfl | exact congrArg some (int_val (by omega))), (by first | rfl | exact congrArg some (int_val (by omega))), trivial⟩
    · skip
      refine wc_skip ?_
      refine wq_then_norm (hK2 ?_)
      refine wc_seq ?_; intro K6 hK6
      refine wc_seq ?_; intro K7 hK7
      obtain rfl : j = 0 := by omega
      rw [Nat.sub_zero] at hsz
      have hbig : 4 < sz ↔ 192 ≤ b.toNat := by
        rw [hsz]
        rcases (show b.toNat / 64 = 0 ∨ b.toNat / 64 = 1 ∨ b.toNat / 64 = 2 ∨ b.toNat / 64 = 3 by omega) with h | h | h | h <;> rw [h] <;> omega
      refine wc_region ?_
      refine wl_y (y_move rfl) rfl ?_
      refine wl_y (y_gtr rfl rfl) rfl ?_
      refine wl_nil ?_
      refine wq_then_norm (hK7 ?_)
      refine wc_dec rfl (fun hc3 => ?_) (fun hc3 => ?_)
      · skip
        refine wc_seq ?_; intro K8 hK8
        refine wc_region ?_
        refine wl_y (y_move rfl) rfl ?_
        refine wl_call Tryz.func142 rfl rfl rfl (rfail_any 3 3 rfl _ H1) rfl ?_
        rintro e w2 ⟨rfl, H2, ex⟩
        refine ⟨_, rfl, ?_⟩
        replace F := F.chs ex
        replace K1 := K1.chs ex
        refine wl_nil ?_
        refine wq_then_norm (hK8 ?_)
        refine wc_seq ?_; intro K9 hK9
        refine wc_region ?_
        refine wl_y (y_assign rfl) rfl ?_
        refine wl_y (y_assign rfl) rfl ?_
        refine wl_nil ?_
        refine wq_then_norm (hK9 ?_)
        refine wc_ret ?_
        refine wq_then_ret ?_
        refine wq_jump_ret ?_
        refine hret rfl rfl ?_
        have e1 : lenX (.ok (b :: r)) = ((0, false), .error 3) := by rw [lenX_ok, pLen_big (hbig.1 (by omega))]
        rw [e1]
        exact ⟨rfl, ⟨by omega, by omega, _, H2⟩, F⟩
      · skip
        refine wc_skip ?_
        refine wq_then_norm (hK6 ?_)
        refine wc_seq ?_; intro K10 hK10
        have hsm : ¬ 192 ≤ b.toNat := fun h => by have := hbig.2 h; omega
        have hpl := pLen_of (r := r) hsm hsz
        have hsz4 : sz ≤ 4 := by omega
        refine wc_region ?_
        refine wl_y (y_move rfl) rfl ?_
        refine wl_y (y_move rfl) rfl ?_
        refine wl_y (y_sub rfl rfl (i64_ok (by omega) (by omega))) rfl ?_
        refine wl_call Tryz.func138 rfl rfl rfl (rtake_any ((sz : Int) - 1) _ (by omega) H1) rfl ?_
        rintro e w3 ⟨A3, n3, c3, rfl, hcap3, K3, H3, ex⟩
        refine ⟨_, rfl, ?_⟩
        replace F := F.chs ex
        replace K1 := K1.chs ex
        rw [tk_nat r (sz - 1) (show ((sz : Int) - 1) = ((sz - 1 : Nat) : Int) by omega)] at K3 H3 ⊢
        refine wl_y (y_move rfl) rfl ?_
        refine wl_y (y_extract rfl rfl) rfl ?_
        refine wl_y (y_extract rfl rfl) rfl ?_
        refine wl_y (y_assign rfl) rfl ?_
        refine wl_y (y_assign rfl) rfl ?_
        refine wl_nil ?_
        refine wq_then_norm (hK10 ?_)
        refine wc_seq ?_; intro K11 hK11
        refine wc_seq ?_; intro K12 hK12
        refine wc_region ?_
        refine wl_y (y_move rfl) rfl ?_
        refine wl_y (y_not rfl) rfl ?_
        refine wl_nil ?_
        refine wq_then_norm (hK12 ?_)
        refine wc_cond rfl (fun hc4 => ?_) (fun hc4 => ?_)
        · skip
          refine wc_seq ?_; intro K13 hK13
          refine wc_region ?_
          refine wl_y (y_assign rfl) rfl ?_
          refine wl_y (y_assign rfl) rfl ?_
          refine wl_nil ?_
          refine wq_then_norm (hK13 ?_)
          refine wc_ret ?_
          refine wq_then_ret ?_
          refine wq_jump_ret ?_
          refine hret rfl rfl ?_
          have hshort : r.length < sz - 1 := Classical.byContradiction fun h => by rw [if_neg h] at hc4; cases hc4
          rw [if_pos hshort] at H3 hpl
          have e1 : lenX (.ok (b :: r)) = ((0, false), .error 4) := by rw [lenX_ok, hpl]
          rw [e1]
          exact ⟨rfl, ⟨by omega, by omega, _, H3⟩, F⟩
        · skip
          refine wc_skip ?_
          refine wq_then_norm (hK11 ?_)
          refine wc_seq ?_; intro K14 hK14
          have hlong : ¬ r.length < sz - 1 := fun h => by rw [if_pos h] at hc4; cases hc4
          rw [if_neg hlong] at H3 K3 hpl
          replace K3 : Kp N S (fun w => Bs w A3 n3 (r.take (sz - 1))) w3 := K3
          replace H3 : Rd N S w3 g (r.drop (sz - 1)) 0 := H3
          have hn3 : n3 = sz - 1 := by rw [← K3.out.1, List.length_take]; omega
          obtain ⟨b1', o1', e1', _, hcell'⟩ := K1.out.get (k := 0) (by omega)
          injection e1' with e1'
          injection e1' with e11 e12 _
          subst e11; subst e12
          have hnb := nb_len_lt (b := b) (t := r.take (sz - 1)) (by rw [List.length_take]; omega)
          refine wc_region ?_
          refine wl_y (y_move rfl) rfl ?_
          refine wl_y (y_ixs1 rfl rfl Tryz.underlying22 (by kernel_rfl) (j := 0) rfl (by omega)) rfl ?_
          refine wl_y (y_load1 rfl Tryz.underlying5 rfl hcell') rfl ?_
          refine wl_y (y_and rfl rfl (and63 ⟨b.toNat, hb8⟩)) rfl ?_
          refine wl_ef (ef_lit (z := .int .u8 0) Tryz.underlying22 (by kernel_rfl) rfl rfl rfl rfl rfl) rfl ?_
          rintro _ w4 ⟨g4, rfl, B4, hg4, ex⟩
          have x4 := ex; have R4 : Row w4 w3.heap.size 5 (some ⟨g4, 0, none⟩) 1 1 ([UInt8.ofNat (b.toNat % 64)].map bv) := Row.new (cs := #[.int .u8 ((b.toNat % 64 : Nat) : Int)]) B4 hg4 rfl (by show 1 ≤ maxLen; unfold maxLen; omega) |>.congr rfl (by simp [bv, UInt8.toNat_ofNat']; omega)
          refine wl_y (y_move rfl) rfl ?_
          refine wl_ef (ef_app rfl rfl eltB R4 (K3.ext x4).out.2 (by rw [List.length_map, K3.out.1]) (by intro u hu; exact bv_one u hu) (by omega) (by omega) x4.size) rfl ?_
          rintro _ w5 ⟨A5, c5, rfl, R5, be, gr, hgl⟩
          have ex := x4.trans be; have S5 := R5.cat.bs
          replace F := F.ext ex
          replace K1 := K1.ext ex
          replace H3 := H3.ext ex
          replace K3 := K3.ext ex
          refine wl_call Tryz.func139 rfl rfl rfl (number_any A5 (1 + n3) c5 _ _ S5 (by omega)) rfl ?_
          rintro e w6 ⟨rfl, ex⟩
          refine ⟨_, rfl, ?_⟩
          replace F := F.ext ex
          replace K1 := K1.ext ex
          replace H3 := H3.ext ex
          replace K3 := K3.ext ex
          skip
          refine wl_y (y_conv rfl Tryz.underlying53 Tryz.underlying3 (i64_ok (by simp only [List.singleton_append]; omega) (by simp only [List.singleton_append]; omega))) rfl ?_
          refine wl_y (y_assign rfl) rfl ?_
          refine wl_nil ?_
          refine wq_then_norm (hK14 ?_)
          refine wc_seq ?_; intro K15 hK15
          refine wc_seq ?_; intro K16 hK16
          refine wc_region ?_
          refine wl_y (y_move rfl) rfl ?_
          simp only [List.singleton_append]
          refine wl_call Tryz.func147 rfl rfl rfl (lenSize_any _ _ hnb) rfl ?_
          rintro e w7 ⟨rfl, ex⟩
          refine ⟨_, rfl, ?_⟩
          replace F := F.ext ex
          replace K1 := K1.ext ex
          replace H3 := H3.ext ex
          replace K3 := K3.ext ex
          skip
          refine wl_y (y_move rfl) rfl ?_
          refine wl_y (y_neq rfl rfl) rfl ?_
          refine wl_nil ?_
          refine wq_then_norm (hK16 ?_)
          refine wc_dec rfl (fun hc5 => ?_) (fun hc5 => ?_)
          · skip
            refine wc_seq ?_; intro K17 hK17
            refine wc_region ?_
            refine wl_y (y_move rfl) rfl ?_
            refine wl_call Tryz.func142 rfl rfl rfl (rfail_any 3 3 rfl _ H3) rfl ?_
            rintro e w8 ⟨rfl, H8, ex⟩
            refine ⟨_, rfl, ?_⟩
            replace F := F.chs ex
            replace K1 := K1.chs ex
            replace K3 := K3.chs ex
            refine wl_nil ?_
            refine wq_then_norm (hK17 ?_)
            refine wc_seq ?_; intro K18 hK18
            refine wc_region ?_
            refine wl_y (y_assign rfl) rfl ?_
            refine wl_y (y_assign rfl) rfl ?_
            refine wl_nil ?_
            refine wq_then_norm (hK18 ?_)
            refine wc_ret ?_
            refine wq_then_ret ?_
            refine wq_jump_ret ?_
            refine hret rfl rfl ?_
            rw [if_neg (by omega)] at hpl
            have e1 : lenX (.ok (b :: r)) = ((0, false), .error 3) := by rw [lenX_ok, hpl]
            rw [e1]
            exact ⟨rfl, ⟨by omega, by omega, _, H8⟩, F⟩
          · skip
            refine wc_skip ?_
            refine wq_then_norm (hK15 ?_)
            refine wc_seq ?_; intro K19 hK19
            refine wc_region ?_
            refine wl_y (y_move rfl) rfl ?_
            refine wl_y (y_assign rfl) rfl ?_
            refine wl_y (y_assign rfl) rfl ?_
            refine wl_nil ?_
            refine wq_then_norm (hK19 ?_)
            refine wc_ret ?_
            refine wq_jump_ret ?_
            refine hret rfl rfl ?_
            rw [if_pos (by omega)] at hpl
            have e1 : lenX (.ok (b :: r)) = ((nb (UInt8.ofNat (b.toNat % 64) :: r.take (sz - 1)), true), .ok (r.drop (sz - 1))) := by rw [lenX_ok, hpl]
            rw [e1]
            exact ⟨rfl, H3, F⟩
  · intro G hG0
    refine wc_seq ?_; intro K20 hK20
    refine wc_region ?_
    refine wl_y (y_move rfl) rfl ?_
    refine wl_call Tryz.func138 rfl rfl rfl (rtake_any 1 _ he H) rfl ?_
    rintro e w1 ⟨A1, n1, c1, rfl, hcap1, K1, H1, ex⟩
    refine ⟨_, rfl, ?_⟩
    replace F := F.chs ex
    refine wl_y (y_move rfl) rfl ?_
    refine wl_y (y_extract rfl rfl) rfl ?_
    refine wl_y (y_extract rfl rfl) rfl ?_
    refine wl_y (y_assign rfl) rfl ?_
    refine wl_y (y_assign rfl) rfl ?_
    refine wl_nil ?_
    refine wq_then_norm (hK20 ?_)
    refine wc_seq ?_; intro K21 hK21
    refine wc_seq ?_; intro K22 hK22
    refine wc_region ?_
    refine wl_y (y_move rfl) rfl ?_
    refine wl_y (y_not rfl) rfl ?_
    refine wl_nil ?_
    refine wq_then_norm (hK22 ?_)
    refine wc_cond rfl (fun hc1 => ?_) (fun hc1 => ?_)
    · skip
      refine wc_seq ?_; intro K23 hK23
      refine wc_region ?_
      refine wl_y (y_assign rfl) rfl ?_
      refine wl_y (y_assign rfl) rfl ?_
      refine wl_nil ?_
      refine wq_then_norm (hK23 ?_)
      refine wc_ret ?_
      refine wq_then_ret ?_
      refine wq_jump_ret ?_
      refine hret rfl rfl ?_
      obtain ⟨c, e1, e2, h0, h9⟩ := tk1_no hs he (by simpa using hc1)
      rw [e2] at H1
      rw [e1]
      exact ⟨rfl, ⟨h0, h9, _, H1⟩, F⟩
    · skip
      refine wc_skip ?_
      refine wq_then_norm (hK21 ?_)
      refine wc_seq ?_; intro K24 hK24
      obtain ⟨b, r, hsb, ht⟩ := tk1_yes hs (by simpa using hc1)
      rw [ht] at K1 H1
      replace K1 : Kp N S (fun w => Bs w A1 n1 [b]) w1 := K1
      replace H1 : Rd N S w1 g r 0 := H1
      have hn1 : n1 = 1 := K1.out.1.symm
      subst hn1
      have hb8 := UInt8.toNat_lt b
      obtain ⟨b1, o1, rfl, _, hcell⟩ := K1.out.get (k := 0) (by omega)
      refine wc_region ?_
      refine wl_y (y_assign rfl) rfl ?_
      refine wl_nil ?_
      refine wq_then_norm (hK24 ?_)
      refine wc_seq ?_; intro K25 hK25
      refine wc_region ?_
      refine wl_y (y_move rfl) rfl ?_
      refine wl_y (y_ixs1 rfl rfl Tryz.underlying22 (by kernel_rfl) (j := 0) rfl (by omega)) rfl ?_
      refine wl_y (y_load1 rfl Tryz.underlying5 rfl hcell) rfl ?_
      refine wl_y (y_shr rfl rfl (by omega) (show ((b.toNat : Nat) : Int) / 64 = ((b.toNat / 64 : Nat) : Int) by omega)) rfl ?_
      refine wl_y (y_assign rfl) rfl ?_
      refine wl_nil ?_
      refine wq_then_norm (hK25 ?_)
      refine wc_seq ?_; intro KG0 hKG0
      refine wc_label ?_
      refine wq_then_norm (hKG0 ?_)
      exact hG0 _ _ ⟨b.toNat / 64, 1, b1, o1, c1, b, r, rfl, rfl, hsb, Nat.le_refl _, by rw [Nat.sub_self], F, H1, K1⟩ ⟨rfl, rfl, (by first | rfl | exact congrArg some (int_val (by omega))), (by first | rfl | exact congrArg some (int_val (by omega))), trivial⟩
theorem pLen_lt {xs r : List UInt8} {n : Nat} (h : pLen xs = .ok (n, r)) : n < 1073741824 := by
  cases xs with
  | nil => cases h
  | cons b t =>
    by_cases hb : 192 ≤ b.toNat
    · rw [pLen_big hb] at h; cases h
    · rw [pLen_of hb rfl] at h
      split at h
      · cases h
      · split at h
        · injection h with h
          injection h with h1 _
          subst h1
          refine nb_len_lt ?_
          rw [List.length_take]
          have : 2 ^ (b.toNat / 64) ≤ 2 ^ 2 := Nat.pow_le_pow_right (by omega) (by omega)
          omega
        · cases h
theorem vecX_len (s : St) : (lenX s).1.2 = false → vecX s = ([], (lenX s).2) := by
  cases s with
  | error c => intro _; rfl
  | ok xs =>
    rw [lenX_ok]
    show _ → (match pVec xs with
      | .error c => (([], .error c) : List UInt8 × St)
      | .ok (v, r) => (v, .ok r)) = _
    unfold pVec
    cases pLen xs with
    | error c => intro _; rfl
    | ok p => intro h; cases h
theorem vecX_yes {s : St} (h : (lenX s).1.2 = true) : ∃ n r, lenX s = ((n, true), .ok r) ∧ n < 1073741824 ∧ vecX s = if r.length < n then ([], .error 4) else (r.take n, .ok (r.drop n)) := by
  cases s with
  | error c => cases h
  | ok xs =>
    rw [lenX_ok] at h ⊢
    show ∃ n r, _ ∧ _ ∧ (match pVec xs with
      | .error c => (([], .error c) : List UInt8 × St)
      | .ok (v, r) => (v, .ok r)) = _
    unfold pVec
    cases hp : pLen xs with
    | error c => rw [hp] at h; cases h
    | ok p =>
      obtain ⟨n, r⟩ := p
      refine ⟨n, r, rfl, pLen_lt hp, ?_⟩
      show (match (if r.length < n then (.error 4 : Except Nat (List UInt8 × List UInt8)) else .ok (r.take n, r.drop n)) with
        | .error c => (([], .error c) : List UInt8 × St)
        | .ok (v, r) => (v, .ok r)) = _
      by_cases hl : r.length < n
      · rw [if_pos hl, if_pos hl]
      · rw [if_neg hl, if_neg hl]
theorem rVec_any {N : Nat} {S : List Nat} {g : Nat} {s : St} (w : World) (H0 : Rs N S w g s) :
    Calls Tryz.prog 114 #[.pointer (some ⟨g, 0, none⟩)] w fun e w' => ∃ A n c, e = .returned (.slice A n c) ∧ n ≤ c ∧ Fb w.heap.size w' A n (vecX s).1 ∧ Rs N S w' g (vecX s).2 ∧ Chs [g] w w' := by
  have F := Chs.refl [g] w
  refine vc_enter1 15 Tryz.func114 rfl rfl rfl rfl ?_
  intro Q hret
  refine wc_seq ?_; intro K1 hK1
  refine wc_region ?_
  refine wl_y (y_assign rfl) rfl ?_
  refine wl_nil ?_
  refine wq_then_norm (hK1 ?_)
  refine wc_seq ?_; intro K2 hK2
  refine wc_region ?_
  refine wl_y (y_move rfl) rfl ?_
  refine wl_call Tryz.func134 rfl rfl rfl (rlength_any _ H0) rfl ?_
  rintro e w1 ⟨rfl, H1, ex⟩
  refine ⟨_, rfl, ?_⟩
  replace F := F.chs ex
  refine wl_y (y_move rfl) rfl ?_
  refine wl_y (y_extract rfl rfl) rfl ?_
  refine wl_y (y_extract rfl rfl) rfl ?_
  refine wl_y (y_assign rfl) rfl ?_
  refine wl_y (y_assign rfl) rfl ?_
  refine wl_nil ?_
  refine wq_then_norm (hK2 ?_)
  refine wc_seq ?_; intro K3 hK3
  refine wc_seq ?_; intro K4 hK4
  refine wc_region ?_
  refine wl_y (y_move rfl) rfl ?_
  refine wl_y (y_not rfl) rfl ?_
  refine wl_nil ?_
  refine wq_then_norm (hK4 ?_)
  refine wc_cond rfl (fun hc1 => ?_) (fun hc1 => ?_)
  · skip
    refine wc_seq ?_; intro K5 hK5
    refine wc_region ?_
    refine wl_y (y_assign rfl) rfl ?_
    refine wl_nil ?_
    refine wq_then_norm (hK5 ?_)
    refine wc_ret ?_
    refine wq_then_ret ?_
    refine hret rfl ?_
    rw [vecX_len s (by simpa using hc1)]
    exact ⟨none, 0, 0, rfl, Nat.le_refl _, Fb.nil _ _ _, H1, F⟩
  · skip
    refine wc_skip ?_
    refine wq_then_norm (hK3 ?_)
    refine wc_seq ?_; intro K6 hK6
    obtain ⟨n, r, e1, hn, e2⟩ := vecX_yes (s := s) (by simpa using hc1)
    rw [e1] at H1 ⊢
    replace H1 : Rd N S w1 g r 0 := H1
    have hz1 := F.size
    refine wc_region ?_
    refine wl_y (y_move rfl) rfl ?_
    refine wl_y (y_move rfl) rfl ?_
    refine wl_call Tryz.func135 rfl rfl rfl (rTake_any (n : Int) _ (by omega) (by omega) H1) rfl ?_
    rintro e w2 ⟨A2, n2, c2, rfl, hcap2, HB2, H2, ex⟩
    refine ⟨_, rfl, ?_⟩
    replace F := F.chs ex
    rw [tk_nat r n rfl] at HB2 H2
    refine wl_y (y_assign rfl) rfl ?_
    refine wl_nil ?_
    refine wq_then_norm (hK6 ?_)
    refine wc_ret ?_
    refine hret rfl ?_
    rw [e2]
    refine ⟨A2, n2, c2, rfl, hcap2, ?_, ?_, F⟩
    · refine Fb.mono (base := w1.heap.size) ?_ hz1
      by_cases hl : r.length < n
      · rw [if_pos hl] at HB2 ⊢; exact HB2
      · rw [if_neg hl] at HB2 ⊢; exact HB2
    · by_cases hl : r.length < n
      · rw [if_pos hl] at H2 ⊢; exact ⟨by omega, by omega, _, H2⟩
      · rw [if_neg hl] at H2 ⊢; exact H2
end
section
open Go.RowKit
attribute [local irreducible] Y Ef WL WC WK WQ WM OpM WN WF OpN
open Wire
namespace Wire
def lenAt (b : List UInt8) (at_ : Nat) : Nat × Nat × Nat := match pLen (b.drop at_) with
  | .ok (v, r) => (v, b.length - r.length, 0)
  | .error c => (0, at_, c)
def vecAt (b : List UInt8) (at_ : Nat) : List UInt8 × Nat × Nat := match pVec (b.drop at_) with
  | .ok (v, r) => (v, b.length - r.length, 0)
  | .error c => ([], at_, c)
def numAt (k : Nat) (b : List UInt8) (at_ : Nat) : Nat × Nat × Nat := if (b.drop at_).length < k then (0, at_, 4) else (nb ((b.drop at_).take k), at_ + k, 0)
theorem lenAt_err {b : List UInt8} {at_ c : Nat} (h : pLen (b.drop at_) = .error c) : lenAt b at_ = (0, at_, c) := by unfold lenAt; rw [h]
theorem lenAt_ok {b r : List UInt8} {at_ v : Nat} (h : pLen (b.drop at_) = .ok (v, r)) : lenAt b at_ = (v, b.length - r.length, 0) := by unfold lenAt; rw [h]
theorem vecAt_err {b : List UInt8} {at_ c : Nat} (h : pVec (b.drop at_) = .error c) : vecAt b at_ = ([], at_, c) := by unfold vecAt; rw [h]
theorem vecAt_ok {b v r : List UInt8} {at_ : Nat} (h : pVec (b.drop at_) = .ok (v, r)) : vecAt b at_ = (v, b.length - r.length, 0) := by unfold vecAt; rw [h]
theorem drop_cons {b : List UInt8} {k : Nat} (h : k < b.length) : b.drop k = b.getD k 0 :: b.drop (k + 1) := by
  rw [List.drop_eq_getElem_cons h]; simp [h]
theorem pLen_err {xs : List UInt8} {c : Nat} (h : pLen xs = .error c) : c ≠ 0 ∧ c < 256 := by
  cases xs with
  | nil => cases h; omega
  | cons b t =>
    by_cases hb : 192 ≤ b.toNat
    · rw [pLen_big hb] at h; cases h; omega
    · rw [pLen_of hb rfl] at h
      split at h
      · cases h; omega
      · split at h
        · cases h
        · cases h; omega
theorem pLen_drop {xs r : List UInt8} {n : Nat} (h : pLen xs = .ok (n, r)) : ∃ k, 1 ≤ k ∧ k ≤ xs.length ∧ r = xs.drop k := by
  cases xs with
  | nil => cases h
  | cons b t =>
    by_cases hb : 192 ≤ b.toNat
    · rw [pLen_big hb] at h; cases h
    · rw [pLen_of hb rfl] at h
      split at h
      · cases h
      · rename_i hl
        split at h
        · injection h with h
          injection h with _ h2
          have hp : 1 ≤ 2 ^ (b.toNat / 64) := Nat.pow_pos (by omega)
          refine ⟨2 ^ (b.toNat / 64), hp, by rw [List.length_cons]; omega, ?_⟩
          rw [← h2]
          obtain ⟨s, hs⟩ : ∃ s, 2 ^ (b.toNat / 64) = s + 1 := ⟨2 ^ (b.toNat / 64) - 1, by omega⟩
          rw [hs]
          simp
        · cases h
theorem pVec_drop {xs v r : List UInt8} (h : pVec xs = .ok (v, r)) : ∃ k, 1 ≤ k ∧ k + v.length ≤ xs.length ∧ r = xs.drop (k + v.length) ∧ v = (xs.drop k).take v.length := by
  unfold pVec at h
  cases hp : pLen xs with
  | error c => rw [hp] at h; cases h
  | ok p =>
    obtain ⟨n, r'⟩ := p
    rw [hp] at h
    obtain ⟨k, h1, h2, rfl⟩ := pLen_drop hp
    have h' : (if (xs.drop k).length < n then (.error 4 : Except Nat (List UInt8 × List UInt8)) else .ok ((xs.drop k).take n, (xs.drop k).drop n)) = .ok (v, r) := h
    by_cases hl : (xs.drop k).length < n
    · rw [if_pos hl] at h'; cases h'
    · rw [if_neg hl] at h'
      injection h' with h'
      injection h' with e1 e2
      have hvl : v.length = n := by rw [← e1, List.length_take]; omega
      rw [List.length_drop] at hl
      exact ⟨k, h1, by omega, by rw [← e2, hvl, List.drop_drop], by rw [hvl, e1]⟩
end Wire
/-- What lies at an address as a part of other bytes. -/
def Sub (A : Option Addr) (n : Nat) (b : List UInt8) (A' : Option Addr) (k : Nat) (v : List UInt8) : Prop := ∀ w, Bs w A n b → Bs w A' k v
theorem i64_pos {z : Int} {n : Nat} (h : z = (n : Int)) (hn : n ≤ 4611686018427387904) : IntKind.i64.wrap z = (n : Int) := by subst h; exact i64_ok (by omega) (by omega)
theorem readLen_any (A : Option Addr) (n c : Nat) (b : List UInt8) (at_ : Nat) (w : World) (HA : Bs w A n b) (hn : n ≤ 1000000) (hat : at_ ≤ n) :
    Calls Tryz.prog 146 #[.slice A n c, .int .i64 (at_ : Int)] w fun e w' => e = .returned (.tuple #[.int .i64 (((lenAt b at_).1 : Nat) : Int), .int .i64 (((lenAt b at_).2.1 : Nat) : Int), .int .i64 (((lenAt b at_).2.2 : Nat) : Int)]) ∧ Ext w w' := by
  have E := Ext.refl w
  have hbl := HA.1
  obtain ⟨x, hx⟩ : ∃ x, x = b.getD at_ 0 := ⟨_, rfl⟩
  have hx8 := UInt8.toNat_lt x
  refine vc_enter3 69 Tryz.func146 rfl rfl rfl rfl ?_
  intro Q hret
  refine wc_seq ?_; intro K1 hK1
  refine wc_region ?_
  refine wl_y (y_assign rfl) rfl ?_
  refine wl_y (y_assign rfl) rfl ?_
  refine wl_y (y_assign rfl) rfl ?_
  refine wl_nil ?_
  refine wq_then_norm (hK1 ?_)
  refine wc_seq ?_; intro K2 hK2
  refine wc_seq ?_; intro K3 hK3
  refine wc_region ?_
  refine wl_y (y_move rfl) rfl ?_
  refine wl_y (y_move rfl) rfl ?_
  refine wl_y (y_len_slice rfl Tryz.underlying22) rfl ?_
  refine wl_y (y_geq rfl rfl) rfl ?_
  refine wl_nil ?_
  refine wq_then_norm (hK3 ?_)
  refine wc_dec rfl (fun hc1 => ?_) (fun hc1 => ?_)
  · skip
    refine wc_seq ?_; intro K4 hK4
    refine wc_region ?_
    refine wl_y (y_move rfl) rfl ?_
    refine wl_y (y_assign rfl) rfl ?_
    refine wl_y (y_assign rfl) rfl ?_
    refine wl_y (y_assign rfl) rfl ?_
    refine wl_nil ?_
    refine wq_then_norm (hK4 ?_)
    refine wc_ret ?_
    refine wq_then_ret ?_
    refine hret rfl rfl rfl ?_
    rw [lenAt_err (c := 4) (by rw [List.drop_of_length_le (by omega)]; rfl)]
    exact ⟨rfl, E⟩
  · skip
    refine wc_skip ?_
    refine wq_then_norm (hK2 ?_)
    refine wc_seq ?_; intro K5 hK5
    refine wc_region ?_
    refine wl_y (y_assign rfl) rfl ?_
    refine wl_nil ?_
    refine wq_then_norm (hK5 ?_)
    refine wc_seq ?_; intro K6 hK6
    refine wc_seq ?_; intro K7 hK7
    have hlt : at_ < n := by omega
    obtain ⟨b0, o0, rfl, _, hcell⟩ := HA.get hlt
    rw [← hx] at hcell
    have hdr : b.drop at_ = x :: b.drop (at_ + 1) := by rw [hx]; exact drop_cons (by omega)
    have hrl : (b.drop (at_ + 1)).length = n - at_ - 1 := by rw [List.length_drop]; omega
    refine wc_region ?_
    refine wl_y (y_move rfl) rfl ?_
    refine wl_y (y_move rfl) rfl ?_
    refine wl_y (y_ixs1 rfl rfl Tryz.underlying22 (by kernel_rfl) rfl (by omega)) rfl ?_
    refine wl_y (y_load1 rfl Tryz.underlying5 rfl hcell) rfl ?_
    refine wl_y (y_geq rfl rfl) rfl ?_
    refine wl_nil ?_
    refine wq_then_norm (hK7 ?_)
    refine wc_join (fun L wj2 => ∃ (sz : Nat), L = [(0, .slice (some ⟨b0, o0, none⟩) n c), (1, .int .i64 (at_ : Int)), (7, .int .i64 (sz : Int))] ∧ (wj2 = w ∧ ((x.toNat < 64 ∧ sz = 1) ∨ (64 ≤ x.toNat ∧ sz = 2)))) ?_ ?_
    · skip
      refine wc_dec rfl (fun hc2 => ?_) (fun hc2 => ?_)
      · skip
        refine wc_region ?_
        refine wl_y (y_assign rfl) rfl ?_
        refine wl_nil ?_
        exact wq_join _ ⟨2, rfl, rfl, .inr ⟨by omega, rfl⟩⟩ ⟨rfl, (by first | rfl | exact congrArg some (int_val (by omega))), (by first | rfl | exact congrArg some (int_val (by omega))), trivial⟩
      · skip
        refine wc_skip ?_
        exact wq_join _ ⟨1, rfl, rfl, .inl ⟨by omega, rfl⟩⟩ ⟨rfl, (by first | rfl | exact congrArg some (int_val (by omega))), (by first | rfl | exact congrArg some (int_val (by omega))), trivial⟩
    rintro L wj2 ⟨sz, rfl, rfl, hsz⟩
    refine wq_then_norm (hK6 ?_)
    refine wc_seq ?_; intro K8 hK8
    refine wc_seq ?_; intro K9 hK9
    refine wc_region ?_
    refine wl_y (y_move rfl) rfl ?_
    refine wl_y (y_move rfl) rfl ?_
    refine wl_y (y_ixs1 rfl rfl Tryz.underlying22 (by kernel_rfl) rfl (by omega)) rfl ?_
    refine wl_y (y_load1 rfl Tryz.underlying5 rfl hcell) rfl ?_
    refine wl_y (y_geq rfl rfl) rfl ?_
    refine wl_nil ?_
    refine wq_then_norm (hK9 ?_)
    refine wc_join (fun L wj3 => ∃ (sy : Nat), L = [(0, .slice (some ⟨b0, o0, none⟩) n c), (1, .int .i64 (at_ : Int)), (7, .int .i64 (sy : Int))] ∧ (wj3 = wj2 ∧ ((x.toNat < 64 ∧ sy = 1) ∨ (64 ≤ x.toNat ∧ x.toNat < 128 ∧ sy = 2) ∨ (128 ≤ x.toNat ∧ sy = 4)))) ?_ ?_
    · skip
      refine wc_dec rfl (fun hc3 => ?_) (fun hc3 => ?_)
      · skip
        refine wc_region ?_
        refine wl_y (y_assign rfl) rfl ?_
        refine wl_nil ?_
        exact wq_join _ ⟨4, rfl, rfl, by omega⟩ ⟨rfl, (by first | rfl | exact congrArg some (int_val (by omega))), (by first | rfl | exact congrArg some (int_val (by omega))), trivial⟩
      · skip
        refine wc_skip ?_
        exact wq_join _ ⟨sz, rfl, rfl, by omega⟩ ⟨rfl, (by first | rfl | exact congrArg some (int_val (by omega))), (by first | rfl | exact congrArg some (int_val (by omega))), trivial⟩
    rintro L wj3 ⟨sy, rfl, rfl, hsy⟩
    refine wq_then_norm (hK8 ?_)
    refine wc_seq ?_; intro K10 hK10
    refine wc_seq ?_; intro K11 hK11
    refine wc_region ?_
    refine wl_y (y_move rfl) rfl ?_
    refine wl_y (y_move rfl) rfl ?_
    refine wl_y (y_ixs1 rfl rfl Tryz.underlying22 (by kernel_rfl) rfl (by omega)) rfl ?_
    refine wl_y (y_load1 rfl Tryz.underlying5 rfl hcell) rfl ?_
    refine wl_y (y_geq rfl rfl) rfl ?_
    refine wl_nil ?_
    refine wq_then_norm (hK11 ?_)
    refine wc_dec rfl (fun hc4 => ?_) (fun hc4 => ?_)
    · skip
      refine wc_seq ?_; intro K12 hK12
      refine wc_region ?_
      refine wl_y (y_move rfl) rfl ?_
      refine wl_y (y_assign rfl) rfl ?_
      refine wl_y (y_assign rfl) rfl ?_
      refine wl_y (y_assign rfl) rfl ?_
      refine wl_nil ?_
      refine wq_then_norm (hK12 ?_)
      refine wc_ret ?_
      refine wq_then_ret ?_
      refine hret rfl rfl rfl ?_
      rw [lenAt_err (c := 3) (by rw [hdr]; exact pLen_big (by omega))]
      exact ⟨rfl, E⟩
    · skip
      refine wc_skip ?_
      refine wq_then_norm (hK10 ?_)
      refine wc_seq ?_; intro K13 hK13
      refine wc_seq ?_; intro K14 hK14
      have hsm : ¬ 192 ≤ x.toNat := by omega
      have hs2 : sy = 2 ^ (x.toNat / 64) := by
        rcases hsy with ⟨h, e⟩ | ⟨h1, h2, e⟩ | ⟨h, e⟩
        · rw [show x.toNat / 64 = 0 by omega]; omega
        · rw [show x.toNat / 64 = 1 by omega]; omega
        · rw [show x.toNat / 64 = 2 by omega]; omega
      have hpl := pLen_of (r := b.drop (at_ + 1)) hsm hs2
      rw [← hdr] at hpl
      have hsy4 : 1 ≤ sy ∧ sy ≤ 4 := by omega
      refine wc_region ?_
      refine wl_y (y_move rfl) rfl ?_
      refine wl_y (y_move rfl) rfl ?_
      refine wl_y (y_add rfl rfl (i64_ok (by omega) (by omega))) rfl ?_
      refine wl_y (y_move rfl) rfl ?_
      refine wl_y (y_len_slice rfl Tryz.underlying22) rfl ?_
      refine wl_y (y_gtr rfl rfl) rfl ?_
      refine wl_nil ?_
      refine wq_then_norm (hK14 ?_)
      refine wc_dec rfl (fun hc5 => ?_) (fun hc5 => ?_)
      · skip
        refine wc_seq ?_; intro K15 hK15
        refine wc_region ?_
        refine wl_y (y_move rfl) rfl ?_
        refine wl_y (y_assign rfl) rfl ?_
        refine wl_y (y_assign rfl) rfl ?_
        refine wl_y (y_assign rfl) rfl ?_
        refine wl_nil ?_
        refine wq_then_norm (hK15 ?_)
        refine wc_ret ?_
        refine wq_then_ret ?_
        refine hret rfl rfl rfl ?_
        rw [if_pos (by omega)] at hpl
        rw [lenAt_err hpl]
        exact ⟨rfl, E⟩
      · skip
        refine wc_skip ?_
        refine wq_then_norm (hK13 ?_)
        refine wc_seq ?_; intro K16 hK16
        rw [if_neg (by omega)] at hpl
        obtain ⟨ys, hys⟩ : ∃ ys, ys = UInt8.ofNat (x.toNat % 64) :: b.drop (at_ + 1) := ⟨_, rfl⟩
        have hyl : ys.length = n - at_ := by rw [hys, List.length_cons, hrl]; omega
        have hy1 : nb (ys.take 1) = x.toNat % 64 := by rw [hys]; simp [nb, UInt8.toNat_ofNat']; omega
        refine wc_region ?_
        refine wl_y (y_move rfl) rfl ?_
        refine wl_y (y_move rfl) rfl ?_
        refine wl_y (y_ixs1 rfl rfl Tryz.underlying22 (by kernel_rfl) rfl (by omega)) rfl ?_
        refine wl_y (y_load1 rfl Tryz.underlying5 rfl hcell) rfl ?_
        refine wl_y (y_conv rfl Tryz.underlying5 Tryz.underlying3 (i64_ok (by omega) (by omega))) rfl ?_
        refine wl_y (y_rem rfl rfl (by omega) (show (((x.toNat : Nat) : Int).tmod 64) = ((x.toNat % 64 : Nat) : Int) from rfl)) rfl ?_
        refine wl_y (y_assign rfl) rfl ?_
        refine wl_nil ?_
        refine wq_then_norm (hK16 ?_)
        refine wc_seq ?_; intro K17 hK17
        refine wc_seq ?_; intro K18 hK18
        refine wc_region ?_
        refine wl_y (y_assign rfl) rfl ?_
        refine wl_nil ?_
        refine wq_then_norm (hK18 ?_)
        refine wc_block ?_
        refine wc_loop (fun n' L wr => ∃ (i v : Nat), L = [(0, .slice (some ⟨b0, o0, none⟩) n c), (1, .int .i64 (at_ : Int)), (7, .int .i64 (sy : Int)), (8, .int .i64 (v : Int)), (9, .int .i64 (i : Int))] ∧ n' = sy - i ∧ (1 ≤ i ∧ i ≤ sy ∧ v = nb (ys.take i) ∧ Ext wj3 wr)) _ _ ⟨1, x.toNat % 64, rfl, rfl, Nat.le_refl _, hsy4.1, hy1.symm, Ext.refl _⟩ ⟨rfl, (by first | rfl | exact congrArg some (int_val (by omega))), (by first | rfl | exact congrArg some (int_val (by omega))), (by first | rfl | exact congrArg some (int_val (by omega))), (by first | rfl | exact congrArg some (int_val (by omega))), trivial⟩ ?_
        rintro KL1 n' L wr ⟨i, v, rfl, rfl, hi1, hi, hv, E⟩ hL1
        refine wc_seq ?_; intro K19 hK19
        refine wc_seq ?_; intro K20 hK20
        refine wc_region ?_
        refine wl_y (y_move rfl) rfl ?_
        refine wl_y (y_move rfl) rfl ?_
        refine wl_y (y_lss rfl rfl) rfl ?_
        refine wl_nil ?_
        refine wq_then_norm (hK20 ?_)
        refine wc_dec rfl (fun hc6 => ?_) (fun hc6 => ?_)
        · skip
          refine wc_skip ?_
          refine wq_then_norm (hK19 ?_)
          refine wc_seq ?_; intro K21 hK21
          refine wc_block ?_
          have hlt2 : i < sy := by omega
          obtain ⟨b1, o1, e1, _, hcell2⟩ := (HA.ext E).get (k := at_ + i) (by omega)
          injection e1 with e1
          injection e1 with e11 e12 _
          subst e11; subst e12
          have hz8 := UInt8.toNat_lt (b.getD (at_ + i) 0)
          have hst := nb_take_succ (xs := ys) (k := i) (by omega)
          have hgy : ys.getD i 0 = b.getD (at_ + i) 0 := by
            obtain ⟨j, rfl⟩ : ∃ j, i = j + 1 := ⟨i - 1, by omega⟩
            rw [hys]
            simp [List.getD_eq_getElem?_getD, Nat.add_comm, Nat.add_left_comm]
          rw [hgy, ← hv] at hst
          have hvl := nb_lt (ys.take i)
          rw [← hv, List.length_take] at hvl
          have hvl2 : v < 256 ^ 3 := Nat.lt_of_lt_of_le hvl (Nat.pow_le_pow_right (by omega) (by omega))
          refine wc_region ?_
          refine wl_y (y_move rfl) rfl ?_
          refine wl_y (y_mul rfl rfl (i64_ok (by omega) (by omega))) rfl ?_
          refine wl_y (y_move rfl) rfl ?_
          refine wl_y (y_move rfl) rfl ?_
          refine wl_y (y_move rfl) rfl ?_
          refine wl_y (y_add rfl rfl (i64_ok (by omega) (by omega))) rfl ?_
          refine wl_y (y_ixs1 rfl rfl Tryz.underlying22 (by kernel_rfl) (j := at_ + i) (by omega) (by omega)) rfl ?_
          refine wl_y (y_load1 rfl Tryz.underlying5 rfl hcell2) rfl ?_
          refine wl_y (y_conv rfl Tryz.underlying5 Tryz.underlying3 (i64_ok (by omega) (by omega))) rfl ?_
          refine wl_y (y_add rfl rfl (i64_ok (by omega) (by omega))) rfl ?_
          refine wl_y (y_assign rfl) rfl ?_
          refine wl_nil ?_
          refine wq_blk_norm ?_
          refine wq_then_norm (hK21 ?_)
          refine wc_region ?_
          refine wl_y (y_move rfl) rfl ?_
          refine wl_y (y_add rfl rfl (i64_ok (by omega) (by omega))) rfl ?_
          refine wl_y (y_assign rfl) rfl ?_
          refine wl_nil ?_
          refine wq_then_norm ?_
          refine hL1 _ _ ⟨i + 1, 256 * v + (b.getD (at_ + i) 0).toNat, rfl, rfl, by omega, by omega, by omega, E⟩ (by omega) ⟨rfl, (by first | rfl | exact congrArg some (int_val (by omega))), (by first | rfl | exact congrArg some (int_val (by omega))), (by first | rfl | exact congrArg some (int_val (by omega))), (by first | rfl | exact congrArg some (int_val (by omega))), trivial⟩
        · skip
          refine wc_exit ?_
          refine wq_then_exit ?_
          refine wq_then_exit ?_
          refine wq_blk_hit ?_
          refine wq_then_norm (hK17 ?_)
          refine wc_seq ?_; intro K22 hK22
          refine wc_seq ?_; intro K23 hK23
          obtain rfl : i = sy := by omega
          have hyt : ys.take i = UInt8.ofNat (x.toNat % 64) :: (b.drop (at_ + 1)).take (i - 1) := by
            obtain ⟨j, rfl⟩ : ∃ j, i = j + 1 := ⟨i - 1, by omega⟩
            rw [hys]; simp
          rw [← hyt, ← hv] at hpl
          have hv30 : v < 1073741824 := by rw [hv, hyt]; exact nb_len_lt (by rw [List.length_take]; omega)
          refine wc_region ?_
          refine wl_y (y_move rfl) rfl ?_
          refine wl_call Tryz.func149 rfl rfl rfl (refLen_any v _ hv30) rfl ?_
          rintro e w1 ⟨A1, c1, rfl, R1, ex⟩
          refine ⟨_, rfl, ?_⟩
          replace E := E.ext ex
          skip
          refine wl_y (y_len_slice rfl Tryz.underlying22) rfl ?_
          refine wl_y (y_move rfl) rfl ?_
          refine wl_y (y_neq rfl rfl) rfl ?_
          refine wl_nil ?_
          refine wq_then_norm (hK23 ?_)
          refine wc_dec rfl (fun hc7 => ?_) (fun hc7 => ?_)
          · skip
            refine wc_seq ?_; intro K24 hK24
            refine wc_region ?_
            refine wl_y (y_move rfl) rfl ?_
            refine wl_y (y_assign rfl) rfl ?_
            refine wl_y (y_assign rfl) rfl ?_
            refine wl_y (y_assign rfl) rfl ?_
            refine wl_nil ?_
            refine wq_then_norm (hK24 ?_)
            refine wc_ret ?_
            refine wq_then_ret ?_
            refine hret rfl rfl rfl ?_
            rw [if_neg (by omega)] at hpl
            rw [lenAt_err hpl]
            exact ⟨rfl, E⟩
          · skip
            refine wc_skip ?_
            refine wq_then_norm (hK22 ?_)
            refine wc_seq ?_; intro K25 hK25
            rw [if_pos (by omega)] at hpl
            refine wc_region ?_
            refine wl_y (y_move rfl) rfl ?_
            refine wl_y (y_move rfl) rfl ?_
            refine wl_y (y_move rfl) rfl ?_
            refine wl_y (y_add rfl rfl (i64_ok (by omega) (by omega))) rfl ?_
            refine wl_y (y_assign rfl) rfl ?_
            refine wl_y (y_assign rfl) rfl ?_
            refine wl_y (y_assign rfl) rfl ?_
            refine wl_nil ?_
            refine wq_then_norm (hK25 ?_)
            refine wc_ret ?_
            refine hret rfl rfl rfl ?_
            rw [lenAt_ok hpl]
            exact ⟨by rw [List.length_drop, hrl]; congr 3; simp only [List.cons.injEq, Array.mk.injEq, Value.int.injEq, true_and, and_true]; omega, E⟩
theorem readLen_err {A : Option Addr} {n c : Nat} {b : List UInt8} {at_ z : Nat} {w : World} (HA : Bs w A n b) (hn : n ≤ 1000000) (hat : at_ ≤ n) (h : pLen (b.drop at_) = .error z) :
    Calls Tryz.prog 146 #[.slice A n c, .int .i64 (at_ : Int)] w fun e w' => e = .returned (.tuple #[.int .i64 0, .int .i64 (at_ : Int), .int .i64 (z : Int)]) ∧ Ext w w' :=
  (readLen_any A n c b at_ w HA hn hat).mono fun _ _ ⟨h1, h2⟩ => ⟨by rw [h1, lenAt_err h]; rfl, h2⟩
theorem readLen_ok {A : Option Addr} {n c : Nat} {b r : List UInt8} {at_ v : Nat} {w : World} (HA : Bs w A n b) (hn : n ≤ 1000000) (hat : at_ ≤ n) (h : pLen (b.drop at_) = .ok (v, r)) :
    Calls Tryz.prog 146 #[.slice A n c, .int .i64 (at_ : Int)] w fun e w' => e = .returned (.tuple #[.int .i64 (v : Int), .int .i64 ((n - r.length : Nat) : Int), .int .i64 0]) ∧ Ext w w' :=
  (readLen_any A n c b at_ w HA hn hat).mono fun _ _ ⟨h1, h2⟩ => ⟨by rw [h1, lenAt_ok h, HA.1]; rfl, h2⟩
def VecR (A : Option Addr) (n : Nat) (b v : List UInt8) (nx z : Nat) (w w' : World) (e : Ending) : Prop := ∃ A' k c', e = .returned (.tuple #[.slice A' k c', .int .i64 (nx : Int), .int .i64 (z : Int)]) ∧ Sub A n b A' k v ∧ k ≤ c' ∧ Ext w w'
theorem readVec_e1 {A : Option Addr} {n c : Nat} {b : List UInt8} {at_ z : Nat} {w : World} (HA : Bs w A n b) (hn : n ≤ 1000000) (hat : at_ ≤ n) (h : pLen (b.drop at_) = .error z) :
    Calls Tryz.prog 129 #[.slice A n c, .int .i64 (at_ : Int)] w fun e w' => VecR A n b [] at_ z w w' e := by
  have E := Ext.refl w
  have hz := pLen_err h
  refine vc_enter3 37 Tryz.func129 rfl rfl rfl rfl ?_
  intro Q hret
  refine wc_seq ?_; intro K1 hK1
  refine wc_region ?_
  refine wl_y (y_assign rfl) rfl ?_
  refine wl_y (y_assign rfl) rfl ?_
  refine wl_y (y_assign rfl) rfl ?_
  refine wl_nil ?_
  refine wq_then_norm (hK1 ?_)
  refine wc_seq ?_; intro K2 hK2
  refine wc_region ?_
  refine wl_y (y_move rfl) rfl ?_
  refine wl_y (y_move rfl) rfl ?_
  refine wl_call Tryz.func146 rfl rfl rfl (readLen_err HA hn hat h) rfl ?_
  rintro e w1 ⟨rfl, ex⟩
  refine ⟨_, rfl, ?_⟩
  replace E := E.ext ex
  skip
  refine wl_y (y_move rfl) rfl ?_
  refine wl_y (y_extract rfl rfl) rfl ?_
  refine wl_y (y_extract rfl rfl) rfl ?_
  refine wl_y (y_extract rfl rfl) rfl ?_
  refine wl_y (y_assign rfl) rfl ?_
  refine wl_y (y_assign rfl) rfl ?_
  refine wl_y (y_assign rfl) rfl ?_
  refine wl_nil ?_
  refine wq_then_norm (hK2 ?_)
  refine wc_seq ?_; intro K3 hK3
  refine wc_seq ?_; intro K4 hK4
  refine wc_region ?_
  refine wl_y (y_move rfl) rfl ?_
  refine wl_y (y_neq rfl rfl) rfl ?_
  refine wl_nil ?_
  refine wq_then_norm (hK4 ?_)
  refine wc_yes rfl (by omega) ?_
  refine wc_seq ?_; intro K5 hK5
  refine wc_region ?_
  refine wl_y (y_move rfl) rfl ?_
  refine wl_y (y_move rfl) rfl ?_
  refine wl_y (y_assign rfl) rfl ?_
  refine wl_y (y_assign rfl) rfl ?_
  refine wl_y (y_assign rfl) rfl ?_
  refine wl_nil ?_
  refine wq_then_norm (hK5 ?_)
  refine wc_ret ?_
  refine wq_then_ret ?_
  refine hret rfl rfl rfl ?_
  exact ⟨none, 0, 0, rfl, fun w _ => Bs.nil w _, Nat.le_refl _, E⟩
theorem readVec_e2 {A : Option Addr} {n c : Nat} {b r : List UInt8} {at_ v : Nat} {w : World} (HA : Bs w A n b) (hc : n ≤ c) (hn : n ≤ 1000000) (hat : at_ ≤ n) (hp : pLen (b.drop at_) = .ok (v, r)) :
    Calls Tryz.prog 129 #[.slice A n c, .int .i64 (at_ : Int)] w fun e w' => VecR A n b (vecAt b at_).1 (vecAt b at_).2.1 (vecAt b at_).2.2 w w' e := by
  have E := Ext.refl w
  have hbl := HA.1
  have hvl := pLen_lt hp
  obtain ⟨q, hq1, hq2, hqr⟩ := pLen_drop hp
  rw [List.length_drop] at hq2
  have hrl : r.length = n - at_ - q := by rw [hqr, List.length_drop, List.length_drop]; omega
  have hpv : pVec (b.drop at_) = if r.length < v then .error 4 else .ok (r.take v, r.drop v) := by unfold pVec; rw [hp]
  obtain ⟨nx, hnx⟩ : ∃ nx, nx = n - r.length := ⟨_, rfl⟩
  refine vc_enter3 37 Tryz.func129 rfl rfl rfl rfl ?_
  intro Q hret
  refine wc_seq ?_; intro K1 hK1
  refine wc_region ?_
  refine wl_y (y_assign rfl) rfl ?_
  refine wl_y (y_assign rfl) rfl ?_
  refine wl_y (y_assign rfl) rfl ?_
  refine wl_nil ?_
  refine wq_then_norm (hK1 ?_)
  refine wc_seq ?_; intro K2 hK2
  refine wc_region ?_
  refine wl_y (y_move rfl) rfl ?_
  refine wl_y (y_move rfl) rfl ?_
  refine wl_call Tryz.func146 rfl rfl rfl (readLen_ok HA hn hat hp) rfl ?_
  rintro e w1 ⟨rfl, ex⟩
  refine ⟨_, rfl, ?_⟩
  replace E := E.ext ex
  rw [← hnx]
  refine wl_y (y_move rfl) rfl ?_
  refine wl_y (y_extract rfl rfl) rfl ?_
  refine wl_y (y_extract rfl rfl) rfl ?_
  refine wl_y (y_extract rfl rfl) rfl ?_
  refine wl_y (y_assign rfl) rfl ?_
  refine wl_y (y_assign rfl) rfl ?_
  refine wl_y (y_assign rfl) rfl ?_
  refine wl_nil ?_
  refine wq_then_norm (hK2 ?_)
  refine wc_seq ?_; intro K3 hK3
  refine wc_seq ?_; intro K4 hK4
  refine wc_region ?_
  refine wl_y (y_move rfl) rfl ?_
  refine wl_y (y_neq rfl rfl) rfl ?_
  refine wl_nil ?_
  refine wq_then_norm (hK4 ?_)
  refine wc_no rfl (by omega) ?_
  refine wc_skip ?_
  refine wq_then_norm (hK3 ?_)
  refine wc_seq ?_; intro K5 hK5
  refine wc_seq ?_; intro K6 hK6
  refine wc_region ?_
  refine wl_y (y_move rfl) rfl ?_
  refine wl_y (y_move rfl) rfl ?_
  refine wl_y (y_len_slice rfl Tryz.underlying22) rfl ?_
  refine wl_y (y_move rfl) rfl ?_
  refine wl_y (y_sub rfl rfl (i64_ok (by omega) (by omega))) rfl ?_
  refine wl_y (y_gtr rfl rfl) rfl ?_
  refine wl_nil ?_
  refine wq_then_norm (hK6 ?_)
  refine wc_dec rfl (fun hc2 => ?_) (fun hc2 => ?_)
  · skip
    refine wc_seq ?_; intro K7 hK7
    refine wc_region ?_
    refine wl_y (y_move rfl) rfl ?_
    refine wl_y (y_assign rfl) rfl ?_
    refine wl_y (y_assign rfl) rfl ?_
    refine wl_y (y_assign rfl) rfl ?_
    refine wl_nil ?_
    refine wq_then_norm (hK7 ?_)
    refine wc_ret ?_
    refine wq_then_ret ?_
    refine hret rfl rfl rfl ?_
    rw [if_pos (by omega)] at hpv
    rw [vecAt_err hpv]
    exact ⟨none, 0, 0, rfl, fun w _ => Bs.nil w _, Nat.le_refl _, E⟩
  · skip
    refine wc_skip ?_
    refine wq_then_norm (hK5 ?_)
    refine wc_seq ?_; intro K8 hK8
    rw [if_neg (by omega)] at hpv
    refine wc_region ?_
    refine wl_y (y_move rfl) rfl ?_
    refine wl_y (y_move rfl) rfl ?_
    refine wl_y (y_move rfl) rfl ?_
    refine wl_y (y_move rfl) rfl ?_
    refine wl_y (y_add rfl rfl (i64_ok (by omega) (by omega))) rfl ?_
    refine wl_y (y_cutlh (s := 1) rfl rfl rfl Tryz.underlying22 (by kernel_rfl) (j := nx) rfl (h := nx + v) (by omega) (by omega) (by omega)) rfl ?_
    refine wl_y (y_move rfl) rfl ?_
    refine wl_y (y_move rfl) rfl ?_
    refine wl_y (y_add rfl rfl (i64_ok (by omega) (by omega))) rfl ?_
    refine wl_y (y_assign rfl) rfl ?_
    refine wl_y (y_assign rfl) rfl ?_
    refine wl_y (y_assign rfl) rfl ?_
    refine wl_nil ?_
    refine wq_then_norm (hK8 ?_)
    refine wc_ret ?_
    refine hret rfl rfl rfl ?_
    rw [vecAt_ok hpv]
    refine ⟨cutA A c nx 1, nx + v - nx, c - nx, ?_, fun w H => ?_, by omega, E⟩
    · rw [show b.length - (r.drop v).length = nx + v by rw [List.length_drop, hrl]; omega]; rfl
    · have h1 := (H.take (k := nx + v) (by omega)).cutA (c := c) (j := nx) (by omega) (by omega)
      have e : (b.take (nx + v)).drop nx = r.take v := by rw [List.drop_take, hqr, List.drop_drop]; congr 1 <;> congr 1 <;> omega
      rw [e] at h1
      exact h1
theorem readVec_any {A : Option Addr} {n c : Nat} {b : List UInt8} {at_ : Nat} {w : World} (HA : Bs w A n b) (hc : n ≤ c) (hn : n ≤ 1000000) (hat : at_ ≤ n) :
    Calls Tryz.prog 129 #[.slice A n c, .int .i64 (at_ : Int)] w fun e w' => VecR A n b (vecAt b at_).1 (vecAt b at_).2.1 (vecAt b at_).2.2 w w' e := by
  cases hp : pLen (b.drop at_) with
  | error z =>
    have hv : pVec (b.drop at_) = .error z := by unfold pVec; rw [hp]
    rw [vecAt_err hv]
    exact readVec_e1 HA hn hat hp
  | ok p => exact readVec_e2 HA hc hn hat (v := p.1) (r := p.2) hp
end
end Go.Proofs.YtpgalbgonmclaaaGreat
