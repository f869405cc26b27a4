/- The message layer's reader: what each of its functions hands back and leaves. No conditions: contracts of the program's functions. -/
import Derived.Test.YtpgalbgonmclaaaGreatMsU
namespace Go.Proofs.YtpgalbgonmclaaaGreat
open Go.RowKit
attribute [local irreducible] Y Ef WL WC WK WQ WM OpM WN WF OpN WJ OpJ
open Wire Nd M20
/-- From w to w' what was there below M stays, but for the blocks of V. -/
structure Lat (M : Nat) (V : List Nat) (w w' : World) : Prop where
  os : w'.os = w.os
  tape : w'.tape = w.tape
  output : w'.output = w.output
  size : w.heap.size ≤ w'.heap.size
  block : ∀ k, k < M → k ∉ V → w'.heap[k]? = w.heap[k]?
section
variable {M N k : Nat} {V S S' : List Nat} {w w' w'' : World} {Φ : World → Prop}
theorem Lat.refl (M : Nat) (V : List Nat) (w : World) : Lat M V w w := ⟨rfl, rfl, rfl, Nat.le_refl _, fun _ _ _ => rfl⟩
theorem Lat.tr (h : Lat M V w w') (g : Lat M V w' w'') : Lat M V w w'' := ⟨g.os.trans h.os, g.tape.trans h.tape, g.output.trans h.output, Nat.le_trans h.size g.size, fun k hk hn => (g.block k hk hn).trans (h.block k hk hn)⟩
theorem Chs.lat (h : Chs S w w') (hM : M ≤ w.heap.size) (hS : ∀ k ∈ S, k < M → k ∈ V := by first | (simp; done) | (simp; omega)) : Lat M V w w' := ⟨h.os, h.tape, h.output, h.size, fun k hk hn => h.block k (by omega) fun hm => hn (hS k hm hk)⟩
theorem _root_.Go.RowKit.Below.lat (h : Ext w w') (hM : M ≤ w.heap.size) : Lat M V w w' := (Chs.of h []).lat hM (by simp)
theorem Lat.chs (h : Lat w.heap.size V w w') : Chs V w w' := ⟨h.os, h.tape, h.output, h.size, h.block⟩
theorem Chs.lats (h : Chs S w w') (l : Lat M V w' w'') (hM : w.heap.size ≤ M) (hV : ∀ k ∈ V, k ∈ S) : Chs S w w'' :=
  ⟨l.os.trans h.os, l.tape.trans h.tape, l.output.trans h.output, Nat.le_trans h.size l.size, fun k hk hn => (l.block k (by omega) fun hm => hn (hV k hm)).trans (h.block k hk hn)⟩
theorem Kp.lat (h : Kp N S Φ w) (l : Lat M V w w') (hN : N ≤ M) (hV : ∀ k ∈ V, k ∈ S) : Kp N S Φ w' :=
  ⟨Nat.le_trans h.1 l.size, fun w2 hw => h.2 w2 fun k hk hn => (hw k hk hn).trans (l.block k (by omega) fun hm => hn (hV k hm))⟩
theorem Lat.mono {V' : List Nat} (h : Lat M V w w') (hV : ∀ k ∈ V, k ∈ V') : Lat M V' w w' := ⟨h.os, h.tape, h.output, h.size, fun k hk hn => h.block k hk fun hm => hn (hV k hm)⟩
end
def inV (gr e : Nat) : Array Value := #[.pointer (some ⟨gr, 0, none⟩), .int .u8 (e : Int)]
theorem inV_set (gr e e' : Nat) {z : Int} (hz : z = (e' : Int)) : (inV gr e).setIfInBounds 1 (.int .u8 z) = inV gr e' := by subst hz; rfl
/-- msg's reader: its own error, and wire's reader. -/
def InE (N : Nat) (S : List Nat) (w : World) (gi gr : Nat) (s : St) (e : Nat) : Prop := Blk w gi 128 (inV gr e) ∧ gi ∈ S ∧ gi ≠ gr ∧ Rs N S w gr s
def In (N : Nat) (S : List Nat) (w : World) (gi gr : Nat) : St → Prop
  | .ok xs => InE N S w gi gr (.ok xs) 0
  | .error c => c ≠ 0 ∧ c < 256 ∧ ∃ s, InE N S w gi gr s c
section
variable {N M gi gr k e : Nat} {S S' V : List Nat} {w w' : World} {s : St}
theorem InE.ext (h : InE N S w gi gr s e) (E : Ext w w') : InE N S w' gi gr s e := ⟨h.1.ext E, h.2.1, h.2.2.1, h.2.2.2.ext E⟩
theorem InE.grow (h : InE N S w gi gr s e) (E : Ext w w') (hk : w.heap.size ≤ k) : InE N (k :: S) w' gi gr s e := ⟨h.1.ext E, List.mem_cons_of_mem _ h.2.1, h.2.2.1, h.2.2.2.grow E hk⟩
theorem InE.chs (h : InE N S w gi gr s e) (C : Chs S' w w') (hs : ∀ k ∈ S', k ∈ S := by first | (simp; done) | (simp; assumption)) (hg : gi ∉ S' := by first | (simp; done) | (simp; omega)) (hr : gr ∉ S' := by first | (simp; done) | (simp; omega)) : InE N S w' gi gr s e := ⟨h.1.chs C hg, h.2.1, h.2.2.1, h.2.2.2.chs C hs hr⟩
theorem InE.mono (h : InE N S w gi gr s e) (hs : ∀ k ∈ S', k ∈ S) (hg : gi ∈ S') (hr : gr ∈ S') : InE N S' w gi gr s e := ⟨h.1, hg, h.2.2.1, h.2.2.2.mono hs hr⟩
theorem In.cases (h : In N S w gi gr s) : ∃ t, InE N S w gi gr t (ecode s) ∧ ecode s < 256 ∧ ((∃ xs, s = .ok xs ∧ t = s) ∨ (ecode s ≠ 0 ∧ s = .error (ecode s))) := by
  cases s with
  | ok xs => exact ⟨_, h, by show 0 < 256; omega, .inl ⟨xs, rfl, rfl⟩⟩
  | error c => obtain ⟨h1, h2, t, h⟩ := h; exact ⟨t, h, h2, .inr ⟨h1, rfl⟩⟩
theorem In.blk (h : In N S w gi gr s) : Blk w gi 128 (inV gr (ecode s)) := by obtain ⟨t, h, _⟩ := h.cases; exact h.1
theorem In.ne (h : In N S w gi gr s) : gi ≠ gr := by obtain ⟨t, h, _⟩ := h.cases; exact h.2.2.1
theorem In.lti (h : In N S w gi gr s) : gi < w.heap.size := h.blk.lt
theorem In.ltr (h : In N S w gi gr s) : gr < w.heap.size := by obtain ⟨t, h, _⟩ := h.cases; exact h.2.2.2.lt
theorem In.memi (h : In N S w gi gr s) : gi ∈ S := by obtain ⟨t, h, _⟩ := h.cases; exact h.2.1
theorem In.memr (h : In N S w gi gr s) : gr ∈ S := by obtain ⟨t, h, _⟩ := h.cases; exact h.2.2.2.mem
theorem In.code (h : In N S w gi gr s) : ecode s < 256 := by obtain ⟨t, _, h, _⟩ := h.cases; exact h
theorem In.good (h : In N S w gi gr s) : Nd.Good s := by
  cases s with
  | ok xs => exact good_ok xs
  | error c => exact good_err h.1
theorem In.ext (h : In N S w gi gr s) (E : Ext w w') : In N S w' gi gr s := by
  cases s with
  | ok xs => exact InE.ext h E
  | error c => obtain ⟨h1, h2, t, h⟩ := h; exact ⟨h1, h2, t, h.ext E⟩
theorem In.grow (h : In N S w gi gr s) (E : Ext w w') (hk : w.heap.size ≤ k) : In N (k :: S) w' gi gr s := by
  cases s with
  | ok xs => exact InE.grow h E hk
  | error c => obtain ⟨h1, h2, t, h⟩ := h; exact ⟨h1, h2, t, h.grow E hk⟩
theorem In.chs (h : In N S w gi gr s) (C : Chs S' w w') (hs : ∀ k ∈ S', k ∈ S := by first | (simp; done) | (simp; assumption)) (hg : gi ∉ S' := by first | (simp; done) | (simp; omega)) (hr : gr ∉ S' := by first | (simp; done) | (simp; omega)) : In N S w' gi gr s := by
  cases s with
  | ok xs => exact InE.chs h C hs hg hr
  | error c => obtain ⟨h1, h2, t, h⟩ := h; exact ⟨h1, h2, t, h.chs C hs hg hr⟩
theorem In.mono (h : In N S w gi gr s) (hs : ∀ k ∈ S', k ∈ S) (hg : gi ∈ S') (hr : gr ∈ S') : In N S' w gi gr s := by
  cases s with
  | ok xs => exact InE.mono h hs hg hr
  | error c => obtain ⟨h1, h2, t, h⟩ := h; exact ⟨h1, h2, t, h.mono hs hg hr⟩
theorem Rs.lat (h : Rs N S w k s) (l : Lat M V w w') (hN : N ≤ M) (hV : ∀ k ∈ V, k ∈ S) (hk : k < M) (hn : k ∉ V) : Rs N S w' k s := by
  have key : ∀ {xs e}, Rd N S w k xs e → Rd N S w' k xs e := fun ⟨A, n, c, B, hc, m, K⟩ => ⟨A, n, c, (l.block k hk hn).trans B, hc, m, K.lat l hN hV⟩
  cases s with
  | ok xs => exact key h
  | error c => obtain ⟨h1, h2, xs, h⟩ := h; exact ⟨h1, h2, xs, key h⟩
theorem In.lat (h : In N S w gi gr s) (l : Lat M V w w') (hN : N ≤ M) (hV : ∀ k ∈ V, k ∈ S) (hi : gi < M) (hr : gr < M) (ni : gi ∉ V) (nr : gr ∉ V) : In N S w' gi gr s := by
  have key : ∀ {t e}, InE N S w gi gr t e → InE N S w' gi gr t e := fun ⟨a, b, c, d⟩ => ⟨(l.block gi hi ni).trans a, b, c, d.lat l hN hV hr nr⟩
  cases s with
  | ok xs => exact key h
  | error c => obtain ⟨h1, h2, t, h⟩ := h; exact ⟨h1, h2, t, key h⟩
end
/-! Wire's flag. -/
theorem flag_no {s : St} {xs : List UInt8} (h : s = .ok xs ∨ (ecode s ≠ 0 ∧ s = .error (ecode s))) (he : ecode s < 256) (hn : (tk xs (ecode s) 1).2.1 = false) :
    ∃ c, flagX s = (false, .error c) ∧ (tk xs (ecode s) 1).2.2.2 = c ∧ c ≠ 0 ∧ c < 256 := by
  rcases h with rfl | ⟨h0, h1⟩
  · have e : tk xs (ecode (.ok xs)) 1 = tk xs 0 1 := rfl
    rw [e, tk_nat xs 1 (z := 1) rfl] at hn ⊢
    cases xs with
    | nil => exact ⟨4, rfl, rfl, by omega, by omega⟩
    | cons b r => rw [if_neg (by simp)] at hn; cases hn
  · generalize ecode s = c at *
    subst h1
    exact ⟨c, rfl, by unfold tk; rw [if_pos h0], h0, he⟩
theorem flagX_cons (b : UInt8) (r : List UInt8) : flagX (.ok (b :: r)) = if 1 < b.toNat then (false, .error 3) else (decide (b.toNat = 1), .ok r) := by
  unfold flagX; rw [num1_cons]
theorem rFlag_any {N : Nat} {S : List Nat} {g : Nat} {s : St} (w : World) (H0 : Rs N S w g s) :
    Calls Tryz.prog 120 #[.pointer (some ⟨g, 0, none⟩)] w fun e w' => e = .returned (.bool (flagX s).1) ∧ Rs N S w' g (flagX s).2 ∧ Chs [g] w w' := by
  obtain ⟨xs, H, he, hs⟩ := H0.rd
  have F := Chs.refl [g] w
  refine vc_enter1 22 Tryz.func120 rfl rfl rfl rfl ?_
  intro Q hret
  refine wc_seq ?_; intro K1 hK1
  refine wc_region ?_
  refine wl_y (y_assign rfl) rfl ?_
  refine wl_nil ?_
  refine wq_then_norm (hK1 ?_)
  refine wc_seq ?_; intro K2 hK2
  refine wc_region ?_
  refine wl_y (y_move rfl) rfl ?_
  refine wl_call Tryz.func138 rfl rfl rfl (rtake_any 1 _ he H) rfl ?_
  rintro e w1 ⟨A1, n1, c1, rfl, hcap1, K1, H1, ex⟩
  refine ⟨_, rfl, ?_⟩
  replace F := F.chs ex
  refine wl_y (y_move rfl) rfl ?_
  refine wl_y (y_extract rfl rfl) rfl ?_
  refine wl_y (y_extract rfl rfl) rfl ?_
  refine wl_y (y_assign rfl) rfl ?_
  refine wl_y (y_assign rfl) rfl ?_
  refine wl_nil ?_
  refine wq_then_norm (hK2 ?_)
  refine wc_seq ?_; intro K3 hK3
  refine wc_seq ?_; intro K4 hK4
  refine wc_region ?_
  refine wl_y (y_move rfl) rfl ?_
  refine wl_y (y_not rfl) rfl ?_
  refine wl_nil ?_
  refine wq_then_norm (hK4 ?_)
  refine wc_cond rfl (fun hc1 => ?_) (fun hc1 => ?_)
  · skip
    refine wc_seq ?_; intro K5 hK5
    refine wc_region ?_
    refine wl_y (y_assign rfl) rfl ?_
    refine wl_nil ?_
    refine wq_then_norm (hK5 ?_)
    refine wc_ret ?_
    refine wq_then_ret ?_
    refine hret rfl ?_
    obtain ⟨c, e1, e2, h0, h9⟩ := flag_no hs he (by simpa using hc1)
    rw [e2] at H1
    rw [e1]
    exact ⟨rfl, ⟨h0, h9, _, H1⟩, F⟩
  · skip
    refine wc_skip ?_
    refine wq_then_norm (hK3 ?_)
    refine wc_seq ?_; intro K6 hK6
    refine wc_seq ?_; intro K7 hK7
    obtain ⟨b, r, rfl, ht⟩ := tk1_yes hs (by simpa using hc1)
    rw [ht] at K1 H1
    replace K1 : Kp N S (fun w => Bs w A1 n1 [b]) w1 := K1
    replace H1 : Rd N S w1 g r 0 := H1
    have hn1 : n1 = 1 := K1.out.1.symm
    subst hn1
    obtain ⟨b1, o1, rfl, _, hcell⟩ := K1.out.get (k := 0) (by omega)
    refine wc_region ?_
    refine wl_y (y_move rfl) rfl ?_
    refine wl_y (y_ixs1 rfl rfl Tryz.underlying22 (by kernel_rfl) (j := 0) rfl (by omega)) rfl ?_
    refine wl_y (y_load1 rfl Tryz.underlying5 rfl hcell) rfl ?_
    refine wl_y (y_gtr rfl rfl) rfl ?_
    refine wl_nil ?_
    refine wq_then_norm (hK7 ?_)
    refine wc_dec rfl (fun hc2 => ?_) (fun hc2 => ?_)
    · skip
      refine wc_seq ?_; intro K8 hK8
      refine wc_region ?_
      refine wl_y (y_move rfl) rfl ?_
      refine wl_call Tryz.func142 rfl rfl rfl (rfail_any 3 3 rfl _ H1) rfl ?_
      rintro e w2 ⟨rfl, H2, ex⟩
      refine ⟨_, rfl, ?_⟩
      replace F := F.chs ex
      refine wl_nil ?_
      refine wq_then_norm (hK8 ?_)
      refine wc_seq ?_; intro K9 hK9
      refine wc_region ?_
      refine wl_y (y_assign rfl) rfl ?_
      refine wl_nil ?_
      refine wq_then_norm (hK9 ?_)
      refine wc_ret ?_
      refine wq_then_ret ?_
      refine hret rfl ?_
      rw [flagX_cons, if_pos (by have h : (1 : Int) < ((b.toNat : Nat) : Int) := hc2; omega)]
      exact ⟨rfl, ⟨by omega, by omega, _, H2⟩, F⟩
    · skip
      refine wc_skip ?_
      refine wq_then_norm (hK6 ?_)
      refine wc_seq ?_; intro K10 hK10
      refine wc_region ?_
      refine wl_y (y_move rfl) rfl ?_
      refine wl_y (y_ixs1 rfl rfl Tryz.underlying22 (by kernel_rfl) (j := 0) rfl (by omega)) rfl ?_
      refine wl_y (y_load1 rfl Tryz.underlying5 rfl hcell) rfl ?_
      refine wl_y (y_eql rfl rfl) rfl ?_
      refine wl_y (y_assign rfl) rfl ?_
      refine wl_nil ?_
      refine wq_then_norm (hK10 ?_)
      refine wc_ret ?_
      refine hret rfl ?_
      have hb : ¬ 1 < b.toNat := by have h : ¬ (1 : Int) < ((b.toNat : Nat) : Int) := hc2; omega
      rw [flagX_cons, if_neg hb]
      exact ⟨by show _ = Ending.returned (.bool (decide (b.toNat = 1))); congr 2; exact decide_eq_decide.2 (by simp; omega), H1, F⟩
/-! Notes. -/
def noteX (z : Nat) : St → St
  | .ok xs => if z = 0 then .ok xs else .error z
  | .error c => .error c
theorem noteX_bad (s : St) : noteX 3 s = badX s := by cases s <;> rfl
section
variable {N gi gr e : Nat} {S : List Nat} {s : St}
theorem note_any (z : Nat) (zi : Int) (hz : zi = (z : Int)) (w : World) (H : InE N S w gi gr s e) :
    Calls Tryz.prog 79 #[.pointer (some ⟨gi, 0, none⟩), .int .u8 zi] w fun r w' => r = .returned (.tuple #[]) ∧ InE N S w' gi gr s (if e = 0 then z else e) ∧ Chs [gi] w w' := by
  have H0 := H
  obtain ⟨B, hm, hne, R⟩ := H
  refine vc_enter0 13 Tryz.func79 rfl rfl rfl rfl ?_
  intro Q hret
  refine wc_seq ?_; intro K1 hK1
  refine wc_region ?_
  refine wl_y (y_move rfl) rfl ?_
  refine wl_y (y_nilp rfl) rfl ?_
  refine wl_y (y_fieldAddr (o := 1) (s := 1) (off := 0) (o' := 1) rfl Tryz.underlying128 rfl (by kernel_rfl) rfl rfl) rfl ?_
  refine wl_y (y_load1 rfl Tryz.underlying28 rfl (B.get (i := 1) rfl)) rfl ?_
  refine wl_y (y_eql rfl rfl) rfl ?_
  refine wl_nil ?_
  refine wq_then_norm (hK1 ?_)
  refine wc_dec rfl (fun hc1 => ?_) (fun hc1 => ?_)
  · skip
    refine wc_region ?_
    refine wl_y (y_move rfl) rfl ?_
    refine wl_y (y_move rfl) rfl ?_
    refine wl_y (y_nilp rfl) rfl ?_
    refine wl_y (y_fieldAddr (o := 1) (s := 1) (off := 0) (o' := 1) rfl Tryz.underlying128 rfl (by kernel_rfl) rfl rfl) rfl ?_
    refine wl_ef (ef_storeB rfl rfl rfl (by kernel_rfl) B (by show 1 < 2; omega)) rfl ?_
    rintro _ w1 ⟨rfl, D, cg⟩
    have ex := Chs.one cg
    rw [inV_set gr e z hz] at D
    refine wl_nil ?_
    refine hret (.inr rfl) ?_
    rw [if_pos (by omega)]
    exact ⟨rfl, ⟨D, hm, hne, R.chs ex (by simpa using hm)⟩, ex⟩
  · skip
    refine wc_skip ?_
    refine hret (.inr rfl) ?_
    rw [if_neg (by omega)]
    exact ⟨rfl, H0, Chs.refl _ _⟩
theorem InE.code {w : World} (h : InE N S w gi gr s (ecode s)) : In N S w gi gr s := by
  cases s with
  | ok xs => exact h
  | error c => exact ⟨h.2.2.2.1, h.2.2.2.2.1, _, h⟩
theorem note0_any (z : Nat) (zi : Int) (hz : zi = (z : Int)) (w : World) (H : InE N S w gi gr s 0) :
    Calls Tryz.prog 79 #[.pointer (some ⟨gi, 0, none⟩), .int .u8 zi] w fun r w' => r = .returned (.tuple #[]) ∧ InE N S w' gi gr s z ∧ Chs [gi] w w' :=
  (note_any z zi hz w H).mono fun _ _ h => by rw [if_pos rfl] at h; exact h
theorem note_in (z : Nat) (zi : Int) (hz : zi = (z : Int)) (h8 : z < 256) (w : World) (H : In N S w gi gr s) :
    Calls Tryz.prog 79 #[.pointer (some ⟨gi, 0, none⟩), .int .u8 zi] w fun r w' => r = .returned (.tuple #[]) ∧ In N S w' gi gr (noteX z s) ∧ Chs [gi] w w' := by
  cases s with
  | ok xs =>
    refine (note0_any z zi hz w H).mono fun _ _ ⟨h1, h2, h3⟩ => ⟨h1, ?_, h3⟩
    show In N S _ gi gr (if z = 0 then .ok xs else .error z)
    by_cases h : z = 0
    · rw [if_pos h]; subst h; exact h2
    · rw [if_neg h]; exact ⟨h, h8, _, h2⟩
  | error c =>
    obtain ⟨k1, k2, t, H⟩ := H
    refine (note_any z zi hz w H).mono fun _ _ ⟨h1, h2, h3⟩ => ⟨h1, ?_, h3⟩
    rw [if_neg k1] at h2
    exact ⟨k1, k2, t, h2⟩
theorem In.isok {w : World} (h : In N S w gi gr s) (e : ecode s = 0) : ∃ xs, s = .ok xs := by
  cases s with
  | ok xs => exact ⟨xs, rfl⟩
  | error c => exact absurd e h.1
theorem In.iserr {w : World} (h : In N S w gi gr s) (e : ecode s ≠ 0) : ∃ c, s = .error c := by
  cases s with
  | ok xs => exact absurd rfl e
  | error c => exact ⟨c, rfl⟩
theorem inum_any (k : Nat) (z : Int) (hz : z = (k : Int)) (w : World) (hk : k = 1 ∨ k = 2 ∨ k = 4 ∨ k = 8) (H : In N S w gi gr s) :
    Calls Tryz.prog 83 #[.pointer (some ⟨gi, 0, none⟩), .int .i64 z] w fun e w' => e = .returned (.int .u64 (((numX k s).1 : Nat) : Int)) ∧ In N S w' gi gr (numX k s).2 ∧ Chs [gr, gi] w w' := by
  have F := Chs.refl [gr, gi] w
  have hne := H.ne
  have hmi := H.memi
  refine vc_enter1 25 Tryz.func83 rfl rfl rfl rfl ?_
  intro Q hret
  refine wc_seq ?_; intro K1 hK1
  refine wc_region ?_
  refine wl_y (y_assign rfl) rfl ?_
  refine wl_nil ?_
  refine wq_then_norm (hK1 ?_)
  refine wc_seq ?_; intro K2 hK2
  refine wc_seq ?_; intro K3 hK3
  refine wc_region ?_
  refine wl_y (y_move rfl) rfl ?_
  refine wl_y (y_nilp rfl) rfl ?_
  refine wl_y (y_fieldAddr (o := 1) (s := 1) (off := 0) (o' := 1) rfl Tryz.underlying128 rfl (by kernel_rfl) rfl rfl) rfl ?_
  refine wl_y (y_load1 rfl Tryz.underlying28 rfl (H.blk.get (i := 1) rfl)) rfl ?_
  refine wl_y (y_neq rfl rfl) rfl ?_
  refine wl_nil ?_
  refine wq_then_norm (hK3 ?_)
  refine wc_dec rfl (fun hc1 => ?_) (fun hc1 => ?_)
  · skip
    refine wc_seq ?_; intro K4 hK4
    refine wc_region ?_
    refine wl_y (y_assign rfl) rfl ?_
    refine wl_nil ?_
    refine wq_then_norm (hK4 ?_)
    refine wc_ret ?_
    refine wq_then_ret ?_
    refine hret rfl ?_
    obtain ⟨c, rfl⟩ := H.iserr (by omega)
    exact ⟨rfl, H, F⟩
  · skip
    refine wc_skip ?_
    refine wq_then_norm (hK2 ?_)
    refine wc_seq ?_; intro K5 hK5
    obtain ⟨xs, rfl⟩ := H.isok (by omega)
    have B := H.1
    refine wc_region ?_
    refine wl_y (y_move rfl) rfl ?_
    refine wl_y (y_nilp rfl) rfl ?_
    refine wl_y (y_fieldAddr (o := 0) (s := 1) (off := 0) (o' := 0) rfl Tryz.underlying128 rfl (by kernel_rfl) rfl rfl) rfl ?_
    refine wl_y (y_load1 rfl Tryz.underlying125 rfl (B.get (i := 0) rfl)) rfl ?_
    refine wl_y (y_move rfl) rfl ?_
    refine wl_call Tryz.func118 rfl rfl rfl (rnum_any k z hz _ hk H.2.2.2) rfl ?_
    rintro e w1 ⟨rfl, R1, ex⟩
    refine ⟨_, rfl, ?_⟩
    replace F := F.chs ex
    replace B := B.chs ex
    refine wl_y (y_assign rfl) rfl ?_
    refine wl_nil ?_
    refine wq_then_norm (hK5 ?_)
    refine wc_seq ?_; intro K6 hK6
    refine wc_region ?_
    refine wl_y (y_move rfl) rfl ?_
    refine wl_y (y_move rfl) rfl ?_
    refine wl_y (y_nilp rfl) rfl ?_
    refine wl_y (y_fieldAddr (o := 0) (s := 1) (off := 0) (o' := 0) rfl Tryz.underlying128 rfl (by kernel_rfl) rfl rfl) rfl ?_
    refine wl_y (y_load1 rfl Tryz.underlying125 rfl (B.get (i := 0) rfl)) rfl ?_
    refine wl_call Tryz.func115 rfl rfl rfl (rErr_any _ R1) rfl ?_
    rintro e w2 ⟨rfl, ex⟩
    refine ⟨_, rfl, ?_⟩
    replace F := F.ext ex
    replace B := B.ext ex
    replace R1 := R1.ext ex
    skip
    refine wl_call Tryz.func79 rfl rfl rfl (note0_any _ _ rfl _ ⟨B, hmi, hne, R1⟩) rfl ?_
    rintro e w3 ⟨rfl, I3, ex⟩
    refine ⟨_, rfl, ?_⟩
    replace F := F.chs ex
    refine wl_nil ?_
    refine wq_then_norm (hK6 ?_)
    refine wc_seq ?_; intro K7 hK7
    refine wc_region ?_
    refine wl_y (y_move rfl) rfl ?_
    refine wl_y (y_assign rfl) rfl ?_
    refine wl_nil ?_
    refine wq_then_norm (hK7 ?_)
    refine wc_ret ?_
    refine hret rfl ?_
    exact ⟨rfl, I3.code, F⟩
theorem ivec_any (w : World) (H : In N S w gi gr s) :
    Calls Tryz.prog 74 #[.pointer (some ⟨gi, 0, none⟩)] w fun e w' => ∃ A n c, e = .returned (.slice A n c) ∧ n ≤ c ∧ Fb w.heap.size w' A n (vecX s).1 ∧ In N S w' gi gr (vecX s).2 ∧ Chs [gr, gi] w w' := by
  have F := Chs.refl [gr, gi] w
  have hne := H.ne
  have hmi := H.memi
  have hli := H.lti
  have hlr := H.ltr
  refine vc_enter1 22 Tryz.func74 rfl rfl rfl rfl ?_
  intro Q hret
  refine wc_seq ?_; intro K1 hK1
  refine wc_region ?_
  refine wl_y (y_assign rfl) rfl ?_
  refine wl_nil ?_
  refine wq_then_norm (hK1 ?_)
  refine wc_seq ?_; intro K2 hK2
  refine wc_seq ?_; intro K3 hK3
  refine wc_region ?_
  refine wl_y (y_move rfl) rfl ?_
  refine wl_y (y_nilp rfl) rfl ?_
  refine wl_y (y_fieldAddr (o := 1) (s := 1) (off := 0) (o' := 1) rfl Tryz.underlying128 rfl (by kernel_rfl) rfl rfl) rfl ?_
  refine wl_y (y_load1 rfl Tryz.underlying28 rfl (H.blk.get (i := 1) rfl)) rfl ?_
  refine wl_y (y_neq rfl rfl) rfl ?_
  refine wl_nil ?_
  refine wq_then_norm (hK3 ?_)
  refine wc_dec rfl (fun hc1 => ?_) (fun hc1 => ?_)
  · skip
    refine wc_seq ?_; intro K4 hK4
    refine wc_region ?_
    refine wl_y (y_assign rfl) rfl ?_
    refine wl_nil ?_
    refine wq_then_norm (hK4 ?_)
    refine wc_ret ?_
    refine wq_then_ret ?_
    refine hret rfl ?_
    obtain ⟨c, rfl⟩ := H.iserr (by omega)
    exact ⟨none, 0, 0, rfl, Nat.le_refl _, Fb.nil _ _ _, H, F⟩
  · skip
    refine wc_skip ?_
    refine wq_then_norm (hK2 ?_)
    refine wc_seq ?_; intro K5 hK5
    obtain ⟨xs, rfl⟩ := H.isok (by omega)
    have B := H.1
    refine wc_region ?_
    refine wl_y (y_move rfl) rfl ?_
    refine wl_y (y_nilp rfl) rfl ?_
    refine wl_y (y_fieldAddr (o := 0) (s := 1) (off := 0) (o' := 0) rfl Tryz.underlying128 rfl (by kernel_rfl) rfl rfl) rfl ?_
    refine wl_y (y_load1 rfl Tryz.underlying125 rfl (B.get (i := 0) rfl)) rfl ?_
    refine wl_call Tryz.func114 rfl rfl rfl (rVec_any _ H.2.2.2) rfl ?_
    rintro e w1 ⟨A1, n1, c1, rfl, hc1', V1, R1, ex⟩
    refine ⟨_, rfl, ?_⟩
    replace F := F.chs ex
    replace B := B.chs ex; have J1 := V1.kk (S := [gr, gi]) (by simp; omega)
    refine wl_y (y_assign rfl) rfl ?_
    refine wl_nil ?_
    refine wq_then_norm (hK5 ?_)
    refine wc_seq ?_; intro K6 hK6
    refine wc_region ?_
    refine wl_y (y_move rfl) rfl ?_
    refine wl_y (y_move rfl) rfl ?_
    refine wl_y (y_nilp rfl) rfl ?_
    refine wl_y (y_fieldAddr (o := 0) (s := 1) (off := 0) (o' := 0) rfl Tryz.underlying128 rfl (by kernel_rfl) rfl rfl) rfl ?_
    refine wl_y (y_load1 rfl Tryz.underlying125 rfl (B.get (i := 0) rfl)) rfl ?_
    refine wl_call Tryz.func115 rfl rfl rfl (rErr_any _ R1) rfl ?_
    rintro e w2 ⟨rfl, ex⟩
    refine ⟨_, rfl, ?_⟩
    replace F := F.ext ex
    replace B := B.ext ex
    replace R1 := R1.ext ex
    replace J1 := J1.ext ex
    skip
    refine wl_call Tryz.func79 rfl rfl rfl (note0_any _ _ rfl _ ⟨B, hmi, hne, R1⟩) rfl ?_
    rintro e w3 ⟨rfl, I3, ex⟩
    refine ⟨_, rfl, ?_⟩
    replace F := F.chs ex
    replace J1 := J1.chs ex
    refine wl_nil ?_
    refine wq_then_norm (hK6 ?_)
    refine wc_seq ?_; intro K7 hK7
    refine wc_region ?_
    refine wl_y (y_move rfl) rfl ?_
    refine wl_y (y_assign rfl) rfl ?_
    refine wl_nil ?_
    refine wq_then_norm (hK7 ?_)
    refine wc_ret ?_
    refine hret rfl ?_
    exact ⟨A1, n1, c1, rfl, hc1', J1.out, I3.code, F⟩
theorem iflag_any (w : World) (H : In N S w gi gr s) :
    Calls Tryz.prog 89 #[.pointer (some ⟨gi, 0, none⟩)] w fun e w' => e = .returned (.bool (flagX s).1) ∧ In N S w' gi gr (flagX s).2 ∧ Chs [gr, gi] w w' := by
  have F := Chs.refl [gr, gi] w
  have hne := H.ne
  have hmi := H.memi
  refine vc_enter1 22 Tryz.func89 rfl rfl rfl rfl ?_
  intro Q hret
  refine wc_seq ?_; intro K1 hK1
  refine wc_region ?_
  refine wl_y (y_assign rfl) rfl ?_
  refine wl_nil ?_
  refine wq_then_norm (hK1 ?_)
  refine wc_seq ?_; intro K2 hK2
  refine wc_seq ?_; intro K3 hK3
  refine wc_region ?_
  refine wl_y (y_move rfl) rfl ?_
  refine wl_y (y_nilp rfl) rfl ?_
  refine wl_y (y_fieldAddr (o := 1) (s := 1) (off := 0) (o' := 1) rfl Tryz.underlying128 rfl (by kernel_rfl) rfl rfl) rfl ?_
  refine wl_y (y_load1 rfl Tryz.underlying28 rfl (H.blk.get (i := 1) rfl)) rfl ?_
  refine wl_y (y_neq rfl rfl) rfl ?_
  refine wl_nil ?_
  refine wq_then_norm (hK3 ?_)
  refine wc_dec rfl (fun hc1 => ?_) (fun hc1 => ?_)
  · skip
    refine wc_seq ?_; intro K4 hK4
    refine wc_region ?_
    refine wl_y (y_assign rfl) rfl ?_
    refine wl_nil ?_
    refine wq_then_norm (hK4 ?_)
    refine wc_ret ?_
    refine wq_then_ret ?_
    refine hret rfl ?_
    obtain ⟨c, rfl⟩ := H.iserr (by omega)
    exact ⟨rfl, H, F⟩
  · skip
    refine wc_skip ?_
    refine wq_then_norm (hK2 ?_)
    refine wc_seq ?_; intro K5 hK5
    obtain ⟨xs, rfl⟩ := H.isok (by omega)
    have B := H.1
    refine wc_region ?_
    refine wl_y (y_move rfl) rfl ?_
    refine wl_y (y_nilp rfl) rfl ?_
    refine wl_y (y_fieldAddr (o := 0) (s := 1) (off := 0) (o' := 0) rfl Tryz.underlying128 rfl (by kernel_rfl) rfl rfl) rfl ?_
    refine wl_y (y_load1 rfl Tryz.underlying125 rfl (B.get (i := 0) rfl)) rfl ?_
    refine wl_call Tryz.func120 rfl rfl rfl (rFlag_any _ H.2.2.2) rfl ?_
    rintro e w1 ⟨rfl, R1, ex⟩
    refine ⟨_, rfl, ?_⟩
    replace F := F.chs ex
    replace B := B.chs ex
    refine wl_y (y_assign rfl) rfl ?_
    refine wl_nil ?_
    refine wq_then_norm (hK5 ?_)
    refine wc_seq ?_; intro K6 hK6
    refine wc_region ?_
    refine wl_y (y_move rfl) rfl ?_
    refine wl_y (y_move rfl) rfl ?_
    refine wl_y (y_nilp rfl) rfl ?_
    refine wl_y (y_fieldAddr (o := 0) (s := 1) (off := 0) (o' := 0) rfl Tryz.underlying128 rfl (by kernel_rfl) rfl rfl) rfl ?_
    refine wl_y (y_load1 rfl Tryz.underlying125 rfl (B.get (i := 0) rfl)) rfl ?_
    refine wl_call Tryz.func115 rfl rfl rfl (rErr_any _ R1) rfl ?_
    rintro e w2 ⟨rfl, ex⟩
    refine ⟨_, rfl, ?_⟩
    replace F := F.ext ex
    replace B := B.ext ex
    replace R1 := R1.ext ex
    skip
    refine wl_call Tryz.func79 rfl rfl rfl (note0_any _ _ rfl _ ⟨B, hmi, hne, R1⟩) rfl ?_
    rintro e w3 ⟨rfl, I3, ex⟩
    refine ⟨_, rfl, ?_⟩
    replace F := F.chs ex
    refine wl_nil ?_
    refine wq_then_norm (hK6 ?_)
    refine wc_seq ?_; intro K7 hK7
    refine wc_region ?_
    refine wl_y (y_move rfl) rfl ?_
    refine wl_y (y_assign rfl) rfl ?_
    refine wl_nil ?_
    refine wq_then_norm (hK7 ?_)
    refine wc_ret ?_
    refine hret rfl ?_
    exact ⟨rfl, I3.code, F⟩
theorem just_ne {k n : Nat} (h : (numX k s).1 ≠ n) : justX k n s = noteX 3 (numX k s).2 := by
  unfold justX
  cases (numX k s).2 with
  | ok r => exact if_neg h
  | error c => rfl
theorem just_eq {k n : Nat} (h : (numX k s).1 = n) : justX k n s = (numX k s).2 := by
  unfold justX
  cases (numX k s).2 with
  | ok r => exact if_pos h
  | error c => rfl
theorem ijust_any (k n : Nat) (z u : Int) (hz : z = (k : Int)) (hu : u = (n : Int)) (w : World) (hk : k = 1 ∨ k = 2 ∨ k = 4 ∨ k = 8) (H : In N S w gi gr s) :
    Calls Tryz.prog 71 #[.pointer (some ⟨gi, 0, none⟩), .int .i64 z, .int .u64 u] w fun e w' => e = .returned (.tuple #[]) ∧ In N S w' gi gr (justX k n s) ∧ Chs [gr, gi] w w' := by
  have F := Chs.refl [gr, gi] w
  refine vc_enter0 13 Tryz.func71 rfl rfl rfl rfl ?_
  intro Q hret
  refine wc_seq ?_; intro K1 hK1
  refine wc_region ?_
  refine wl_y (y_move rfl) rfl ?_
  refine wl_y (y_move rfl) rfl ?_
  refine wl_call Tryz.func83 rfl rfl rfl (inum_any k z hz _ hk H) rfl ?_
  rintro e w1 ⟨rfl, H1, ex⟩
  refine ⟨_, rfl, ?_⟩
  replace F := F.chs ex
  refine wl_y (y_move rfl) rfl ?_
  refine wl_y (y_neq rfl rfl) rfl ?_
  refine wl_nil ?_
  refine wq_then_norm (hK1 ?_)
  refine wc_dec rfl (fun hc1 => ?_) (fun hc1 => ?_)
  · skip
    refine wc_region ?_
    refine wl_y (y_move rfl) rfl ?_
    refine wl_call Tryz.func79 rfl rfl rfl (note_in 3 3 rfl (by omega) _ H1) rfl ?_
    rintro e w2 ⟨rfl, H2, ex⟩
    refine ⟨_, rfl, ?_⟩
    replace F := F.chs ex
    refine wl_nil ?_
    refine hret (.inr rfl) ?_
    rw [just_ne (by omega)]
    exact ⟨rfl, H2, F⟩
  · skip
    refine wc_skip ?_
    refine hret (.inr rfl) ?_
    rw [just_eq (by omega)]
    exact ⟨rfl, H1, F⟩
theorem leaf_in {w : World} {xs : List UInt8} (h : InE N S w gi gr (leafX (.ok xs)).2 (leafX (.ok xs)).1.2) : In N S w gi gr (leafI (.ok xs)).2 := by
  have h8 := (cok_leafX (s := .ok xs) (by show 0 < 256; omega)).1
  show In N S w gi gr (if (leafX (.ok xs)).1.2 ≠ 0 then (.error (leafX (.ok xs)).1.2 : St) else (leafX (.ok xs)).2)
  by_cases hz : (leafX (.ok xs)).1.2 = 0
  · rw [if_neg (by simpa using hz)]
    obtain ⟨k1, r, k2, k3⟩ := leaf_back (good_ok xs) (show leafX (.ok xs) = (((leafX (.ok xs)).1.1, 0), (leafX (.ok xs)).2) by rw [← hz])
    rw [hz, k2] at h
    rw [k2]; exact h
  · rw [if_pos hz]; exact ⟨hz, h8, _, h⟩
theorem ileaf_any (w : World) (H : In N S w gi gr s) :
    Calls Tryz.prog 81 #[.pointer (some ⟨gi, 0, none⟩)] w fun e w' => ∃ cs, e = .returned (.agg cs) ∧ LeafF w.heap.size w' cs (leafI s).1 ∧ In N S w' gi gr (leafI s).2 ∧ Chs [gr, gi] w w' := by
  have F := Chs.refl [gr, gi] w
  have hne := H.ne
  have hmi := H.memi
  have hmr := H.memr
  have hli := H.lti
  have hlr := H.ltr
  refine vc_enterc1 (s := 6) 23 Tryz.func81 rfl rfl rfl Tryz.underlying25 rfl (by kernel_rfl) rfl ?_
  intro Q hret
  refine wc_seq ?_; intro K1 hK1
  refine wc_region ?_
  refine wl_ef (ef_alloc (Z := #[.slice none 0 0, .slice none 0 0, .slice none 0 0, .int .u8 0, .slice none 0 0, .slice none 0 0]) (by kernel_rfl)) rfl ?_
  rintro _ wB2 ⟨gB2, rfl, B2, hgB2, ex⟩
  have lB2 := B2.lt; have zB2 := ex.size
  replace F := F.grow ex hgB2
  replace H := H.grow ex hgB2
  refine wl_nil ?_
  refine wq_then_norm (hK1 ?_)
  refine wc_seq ?_; intro K2 hK2
  refine wc_seq ?_; intro K3 hK3
  refine wc_region ?_
  refine wl_y (y_move rfl) rfl ?_
  refine wl_y (y_nilp rfl) rfl ?_
  refine wl_y (y_fieldAddr (o := 1) (s := 1) (off := 0) (o' := 1) rfl Tryz.underlying128 rfl (by kernel_rfl) rfl rfl) rfl ?_
  refine wl_y (y_load1 rfl Tryz.underlying28 rfl (H.blk.get (i := 1) rfl)) rfl ?_
  refine wl_y (y_neq rfl rfl) rfl ?_
  refine wl_nil ?_
  refine wq_then_norm (hK3 ?_)
  refine wc_dec rfl (fun hc1 => ?_) (fun hc1 => ?_)
  · skip
    obtain ⟨c, rfl⟩ := H.iserr (by omega)
    refine wc_seq ?_; intro K4 hK4
    refine wc_region ?_
    refine wl_y (y_build rfl (cells := zLeafV) (by kernel_rfl)) rfl ?_
    refine wl_ef (ef_storeP (o := 0) rfl rfl (by kernel_rfl) B2 (Nat.le_of_ble_eq_true rfl) (all_ones rfl)) rfl ?_
    rintro _ wS2_1 ⟨rfl, D, cg⟩
    have ex := Chs.one cg
    clear cg
    replace F := F.chs ex
    replace H := H.chs ex
    replace B2 := D; clear D
    replace B2 := B2.congr (cs' := zLeafV) rfl
    refine wl_nil ?_
    refine wq_then_norm (hK4 ?_)
    refine wc_ret ?_
    refine wq_then_ret ?_
    refine hret rfl B2 rfl ?_
    exact ⟨zLeafV, rfl, LeafF.zero _ _, H.mono (fun k hk => by simp [hk]) hmi hmr, F.drop (by omega)⟩
  · skip
    refine wc_skip ?_
    refine wq_then_norm (hK2 ?_)
    refine wc_seq ?_; intro K5 hK5
    obtain ⟨xs, rfl⟩ := H.isok (by omega)
    have B := H.1
    have R := H.2.2.2
    have q2 := B2.lt
    refine wc_region ?_
    refine wl_y (y_move rfl) rfl ?_
    refine wl_y (y_nilp rfl) rfl ?_
    refine wl_y (y_fieldAddr (o := 0) (s := 1) (off := 0) (o' := 0) rfl Tryz.underlying128 rfl (by kernel_rfl) rfl rfl) rfl ?_
    refine wl_y (y_load1 rfl Tryz.underlying125 rfl (B.get (i := 0) rfl)) rfl ?_
    refine wl_call Tryz.func116 rfl rfl rfl (takeLeaf_any _ R) rfl ?_
    rintro e w1 ⟨cs, rfl, HL, R1, ex⟩
    refine ⟨_, rfl, ?_⟩
    replace F := F.chs ex
    replace B2 := B2.chs ex
    replace B := B.chs ex; have KL := HL.kk (S := [gB2, gr, gi]) (by simp; omega); obtain ⟨h0, h1, h2, h4, h5, rfl, hs, b0, b1, b2, b4, b5⟩ := HL
    refine wl_y (y_move rfl) rfl ?_
    refine wl_y (y_extract rfl rfl) rfl ?_
    refine wl_y (y_extract rfl rfl) rfl ?_
    refine wl_ef (ef_alloc (Z := #[.slice none 0 0, .slice none 0 0, .slice none 0 0, .int .u8 0, .slice none 0 0, .slice none 0 0]) (by kernel_rfl)) rfl ?_
    rintro _ wB3 ⟨gB3, rfl, B3, hgB3, ex⟩
    have lB3 := B3.lt; have zB3 := ex.size
    have nB2_3 : gB2 < gB3 := Nat.lt_of_lt_of_le B2.lt hgB3
    replace F := F.grow ex hgB3
    replace B2 := B2.grow ex hgB3
    replace B := B.grow ex hgB3
    replace R1 := R1.grow ex hgB3
    replace KL := KL.grow ex hgB3
    refine wl_ef (ef_storeP (o := 0) rfl rfl (by kernel_rfl) B3 (Nat.le_of_ble_eq_true rfl) (all_ones rfl)) rfl ?_
    rintro _ wS3_9 ⟨rfl, D, cg⟩
    have ex := Chs.one cg
    clear cg
    replace F := F.chs ex
    replace B2 := B2.chs ex
    replace B := B.chs ex
    replace R1 := R1.chs ex
    replace KL := KL.chs ex
    replace B3 := D; clear D
    replace B3 := B3.congr (cs' := leafV h0 h1 h2 (leafX (.ok xs)).1.1.src h4 h5) rfl
    have q3 := B3.lt
    refine wl_y (y_assign rfl) rfl ?_
    refine wl_nil ?_
    refine wq_then_norm (hK5 ?_)
    refine wc_seq ?_; intro K6 hK6
    refine wc_region ?_
    refine wl_y (y_move rfl) rfl ?_
    refine wl_y (y_move rfl) rfl ?_
    refine wl_call Tryz.func79 rfl rfl rfl (note0_any ((leafX (.ok xs)).1.2) _ rfl _ ⟨B, by simp [hmi], hne, R1⟩) rfl ?_
    rintro e w3 ⟨rfl, I3, ex⟩
    refine ⟨_, rfl, ?_⟩
    replace F := F.chs ex
    replace B2 := B2.chs ex
    replace KL := KL.chs ex
    replace B3 := B3.chs ex
    refine wl_nil ?_
    refine wq_then_norm (hK6 ?_)
    refine wc_seq ?_; intro K7 hK7
    refine wc_region ?_
    refine wl_y (y_loadx (o := 0) (s := 6) rfl Tryz.underlying25 rfl (by kernel_rfl) B3 rfl) rfl ?_
    refine wl_ef (ef_storeP (o := 0) rfl rfl (by kernel_rfl) B2 (Nat.le_of_ble_eq_true rfl) (all_ones rfl)) rfl ?_
    rintro _ wS5_1 ⟨rfl, D, cg⟩
    have ex := Chs.one cg
    clear cg
    replace F := F.chs ex
    replace KL := KL.chs ex
    replace B3 := B3.chs ex
    replace I3 := I3.chs ex
    replace B2 := D; clear D
    replace B2 := B2.congr (cs' := leafV h0 h1 h2 (leafX (.ok xs)).1.1.src h4 h5) rfl
    refine wl_nil ?_
    refine wq_then_norm (hK7 ?_)
    refine wc_ret ?_
    refine hret rfl B2 rfl ?_
    exact ⟨_, rfl, KL.out.mono (by omega), leaf_in (I3.mono (fun k hk => by simp [hk]) hmi hmr), (F.drop (by omega)).drop (by omega)⟩
end
/-! What is in a vector, one behind the other. -/
theorem note_then {t : St} {r : List UInt8} (h : Nd.Good t) : noteX (ecode t) (.ok r) = thenX r t := by
  cases t with
  | ok xs => rfl
  | error c => exact if_neg (h c rfl)
theorem each_step {α : Type} {f : St → α × St} {n : Nat} {y : UInt8} {ys r : List UInt8} {E : List α × St} {zs : List α} (hn : (y :: ys).length ≤ n) (hE : E = (zs ++ (eachN f n (y :: ys)).1, thenX r (eachN f n (y :: ys)).2))
    (hdec : ∀ y ys r, (f (.ok (y :: ys))).2 = .ok r → r.length < (y :: ys).length) :
    ((∃ c, thenX r (f (.ok (y :: ys))).2 = .error c ∧ E = (zs ++ [(f (.ok (y :: ys))).1], .error c)) ∨ (∃ r2 ys2 n2, thenX r (f (.ok (y :: ys))).2 = .ok r2 ∧ (f (.ok (y :: ys))).2 = .ok ys2 ∧ ys2.length ≤ n2 ∧ E = ((zs ++ [(f (.ok (y :: ys))).1]) ++ (eachN f n2 ys2).1, thenX r2 (eachN f n2 ys2).2))) ∧ slen (f (.ok (y :: ys))).2 < slen (.ok (y :: ys)) := by
  obtain ⟨m, rfl⟩ : ∃ m, n = m + 1 := ⟨n - 1, by rw [List.length_cons] at hn; omega⟩
  have e : eachN f (m + 1) (y :: ys) = match (f (.ok (y :: ys))).2 with
      | .error c => ([(f (.ok (y :: ys))).1], .error c)
      | .ok r => ((f (.ok (y :: ys))).1 :: (eachN f m r).1, (eachN f m r).2) := rfl
  cases ht : (f (.ok (y :: ys))).2 with
  | error c =>
    rw [ht] at e
    exact ⟨.inl ⟨c, rfl, by rw [hE, e]; rfl⟩, by show 0 < ys.length + 1; omega⟩
  | ok r2 =>
    have h1 := hdec y ys r2 ht
    rw [ht] at e
    exact ⟨.inr ⟨r, r2, m, rfl, rfl, by rw [List.length_cons] at h1 hn; omega, by rw [hE, e]; simp⟩, h1⟩
theorem Rs.bump {N M g : Nat} {S : List Nat} {w : World} {s : St} (h : Rs N S w g s) (h1 : N ≤ M) (h2 : M ≤ w.heap.size) : Rs M S w g s := by
  have key : ∀ {xs e}, Rd N S w g xs e → Rd M S w g xs e := fun ⟨A, n, c, B, hc, m, K⟩ => ⟨A, n, c, B, hc, m, K.bump h1 h2⟩
  cases s with
  | ok xs => exact key h
  | error c => obtain ⟨h1, h2, xs, h⟩ := h; exact ⟨h1, h2, xs, key h⟩
section
variable {N gi gr : Nat} {S V : List Nat} {s : St}
theorem ieach_any {α : Type} {f : St → α × St} {fc : FuncId} {us : List Value} {fn : Func} {bd : Code} {J : Nat → Nat → Nat → List α → World → Prop} (w : World) (H : In N S w gi gr s) (hf : Tryz.prog.funcs[fc]? = some fn) (hb : fn.body = some bd) (hnm : (fn.name == "runtime.NumGoroutine") = false)
    (hS : ∀ k ∈ S, k < w.heap.size) (hN : N ≤ w.heap.size) (hV : ∀ k ∈ V, k ∈ S) (ni : gi ∉ V) (nr : gr ∉ V)
    (hdec : ∀ y ys r, (f (.ok (y :: ys))).2 = .ok r → r.length < (y :: ys).length)
    (hJ0 : ∀ (w1 : World) (x gx : Nat), Chs [gr, gi] w w1 → w.heap.size ≤ x → w.heap.size ≤ gx → x < w1.heap.size → gx < w1.heap.size → J w1.heap.size x gx [] w1)
    (hJ : ∀ N3 x gx zs w1 w2, w.heap.size ≤ N3 → J N3 x gx zs w1 → Chs [gi] w1 w2 → J N3 x gx zs w2)
    (hT : ∀ (N3 x gx : Nat) (ys : List UInt8) zs w1, w.heap.size ≤ x → w.heap.size ≤ gx → x < N3 → gx < N3 → N3 ≤ w1.heap.size → zs.length + ys.length < 1073741824 → In N3 (x :: gx :: S) w1 x gx (.ok ys) → J N3 x gx zs w1 →
      Calls Tryz.prog fc (.pointer (some ⟨x, 0, none⟩) :: us).toArray w1 fun e w2 => e = .returned (.tuple #[]) ∧ In N3 (x :: gx :: S) w2 x gx (f (.ok ys)).2 ∧ J N3 x gx (zs ++ [(f (.ok ys)).1]) w2 ∧ Lat w.heap.size V w1 w2) :
    Calls Tryz.prog 72 #[.pointer (some ⟨gi, 0, none⟩), .func (.func fc) #[] us.toArray] w fun e w' => e = .returned (.tuple #[]) ∧ In N S w' gi gr (eachX f s).2 ∧ (∃ N3 x gx, w.heap.size ≤ N3 ∧ J N3 x gx (eachX f s).1 w') ∧ Chs (gr :: gi :: V) w w' := by
  have hne := H.ne
  have hmi := H.memi
  have hmr := H.memr
  have hli := H.lti
  have hlr := H.ltr
  have F := Chs.refl [gr, gi] w
  refine vc_enter0 32 Tryz.func72 rfl rfl rfl rfl ?_
  intro Q hret
  refine wc_seq ?_; intro K1 hK1
  refine wc_region ?_
  refine wl_y (y_move rfl) rfl ?_
  refine wl_call Tryz.func74 rfl rfl rfl (ivec_any _ H) rfl ?_
  rintro e w1 ⟨A1, n1, c1, rfl, hc1', V1, H1, ex⟩
  refine ⟨_, rfl, ?_⟩
  replace F := F.chs ex
  have J1 := V1.kk (S := S) hS; have z9 := F.size
  refine wl_call Tryz.func78 rfl rfl rfl (newReader_any A1 n1 c1 (vecX s).1 _ hc1' (J1.map fun _ h => h.1)) rfl ?_
  rintro e w2 ⟨gx, rfl, hgx, R, ex⟩
  refine ⟨_, rfl, ?_⟩
  replace F := F.ext ex
  replace H1 := H1.ext ex
  replace J1 := J1.ext ex
  skip
  have z1 := F.size; have hlx := R.lt
  refine wl_y (y_build rfl (cells := inV gx 0) (by kernel_rfl)) rfl ?_
  have R0 := R
  refine wl_ef (ef_box rfl rfl) rfl ?_
  rintro _ w3 ⟨x, rfl, BX, hx, ex⟩
  replace F := F.ext ex
  replace H1 := H1.ext ex
  replace J1 := J1.ext ex
  replace R := R.ext ex
  replace R0 := R0.grow ex hx
  refine wl_y (y_assign rfl) rfl ?_
  have z2 := F.size; have zx := BX.lt; have zg := R.lt
  have z0 := J1.1
  have hx0 : w.heap.size ≤ x := by omega
  have hg0 : w.heap.size ≤ gx := by omega
  have X : In w3.heap.size (x :: gx :: S) w3 x gx (.ok (vecX s).1) := ⟨BX, List.mem_cons_self, by omega, R0.bump z0 (Nat.le_refl _)⟩
  have HJ0 := hJ0 w3 x gx F hx0 hg0 zx zg
  have F2 : Chs (gr :: gi :: V) w w3 := F.mono (fun k hk => by simp at hk ⊢; rcases hk with h | h; exact .inl h; exact .inr (.inl h))
  obtain ⟨N3, hN3⟩ : ∃ n, n = w3.heap.size := ⟨_, rfl⟩
  rw [← hN3] at X HJ0
  have hP : (∃ c, (vecX s).2 = .error c ∧ eachX f s = (([] : List α), .error c)) ∨ (∃ r ys n, (vecX s).2 = .ok r ∧ (.ok (vecX s).1 : St) = .ok ys ∧ ys.length ≤ n ∧ eachX f s = ([] ++ (eachN f n ys).1, thenX r (eachN f n ys).2)) := by
    cases h : (vecX s).2 with
    | error c => exact .inl ⟨c, rfl, eachX_no h⟩
    | ok r => exact .inr ⟨r, _, _, rfl, rfl, Nat.le_refl _, eachX_yes h⟩
  refine wl_nil ?_
  refine wq_then_norm (hK1 ?_)
  refine wc_block ?_
  refine wc_loop (fun n' L wr => ∃ (zs : List α) (st o : St), L = [(0, .pointer (some ⟨gi, 0, none⟩)), (1, .func (.func fc) #[] us.toArray), (4, .pointer (some ⟨x, 0, none⟩))] ∧ n' = slen st ∧ (In N S wr gi gr o ∧ In N3 (x :: gx :: S) wr x gx st ∧ J N3 x gx zs wr ∧ Chs (gr :: gi :: V) w wr ∧ N3 ≤ wr.heap.size ∧ zs.length + slen st ≤ (vecX s).1.length ∧ ((∃ c, o = .error c ∧ eachX f s = (zs, .error c)) ∨ (∃ r ys n, o = .ok r ∧ st = .ok ys ∧ ys.length ≤ n ∧ eachX f s = (zs ++ (eachN f n ys).1, thenX r (eachN f n ys).2))))) _ _ ⟨[], .ok (vecX s).1, (vecX s).2, rfl, rfl, H1, X, HJ0, F2, (by omega), (by show 0 + (vecX s).1.length ≤ _; omega), hP⟩ ⟨rfl, rfl, rfl, trivial⟩ ?_
  rintro KL1 n' L wr ⟨zs, st, o, rfl, rfl, I, X, HJ, F, hz, hct, hP⟩ hL1
  refine wc_seq ?_; intro K2 hK2
  refine wc_seq ?_; intro K3 hK3
  refine wc_region ?_
  refine wl_y (y_move rfl) rfl ?_
  refine wl_y (y_nilp rfl) rfl ?_
  refine wl_y (y_fieldAddr (o := 1) (s := 1) (off := 0) (o' := 1) rfl Tryz.underlying128 rfl (by kernel_rfl) rfl rfl) rfl ?_
  refine wl_y (y_load1 rfl Tryz.underlying28 rfl (I.blk.get (i := 1) rfl)) rfl ?_
  refine wl_yask (y_eql rfl rfl) rfl (fun ho => ?_) (fun ho => ?_)
  · skip
    refine wl_y (y_move rfl) rfl ?_
    obtain ⟨r, ys, n, rfl, rfl, hn, hE⟩ : ∃ r ys n, o = .ok r ∧ st = .ok ys ∧ ys.length ≤ n ∧ eachX f s = (zs ++ (eachN f n ys).1, thenX r (eachN f n ys).2) := by
      rcases hP with ⟨c, rfl, _⟩ | h
      · exact absurd (show c = 0 by have h : ((c : Nat) : Int) = 0 := ho; omega) I.1
      · exact h
    refine wl_gy 15 rfl rfl (y_move rfl) rfl ?_
    refine wl_gy 15 rfl rfl (y_nilp rfl) rfl ?_
    refine wl_gy 15 rfl rfl (y_fieldAddr (o := 0) (s := 1) (off := 0) (o' := 0) rfl Tryz.underlying128 rfl (by kernel_rfl) rfl rfl) rfl ?_
    refine wl_gy 15 rfl rfl (y_load1 rfl Tryz.underlying125 rfl (X.1.get (i := 0) rfl)) rfl ?_
    refine wl_gcall 15 rfl rfl Tryz.func113 rfl rfl rfl (rLeft_any _ X.2.2.2) rfl ?_
    rintro e w4 ⟨rfl, ex⟩
    refine ⟨_, rfl, ?_⟩
    replace I := I.ext ex
    replace X := X.ext ex
    replace F := F.ext ex
    replace HJ := hJ _ _ _ _ _ _ (by omega) HJ (Chs.of ex [gi]); replace hz := Nat.le_trans hz ex.size
    refine wl_gy 15 rfl rfl (y_gtr rfl rfl) rfl ?_
    refine wl_y (y_pickt rfl rfl) rfl ?_
    refine wl_nil ?_
    refine wq_then_norm (hK3 ?_)
    refine wc_dec rfl (fun hc1 => ?_) (fun hc1 => ?_)
    · skip
      refine wc_skip ?_
      refine wq_then_norm (hK2 ?_)
      refine wc_block ?_
      refine wc_seq ?_; intro K4 hK4
      refine wc_region ?_
      refine wl_y (y_move rfl) rfl ?_
      refine wl_y (y_move rfl) rfl ?_
      obtain ⟨y, ys, rfl⟩ : ∃ y ys', ys = y :: ys' := by
        cases ys with
        | nil => exact absurd hc1 (by simp)
        | cons y ys => exact ⟨y, ys, rfl⟩
      obtain ⟨hP2, hm⟩ := each_step hn hE hdec
      refine wl_ef (ef_callv (Φ := fun v w' => v = .tuple #[] ∧ In N3 (x :: gx :: S) w' x gx (f (.ok (y :: ys))).2 ∧ J N3 x gx (zs ++ [(f (.ok (y :: ys))).1]) w' ∧ Lat w.heap.size V _ w') (xs := [.tmp 24]) (vs := [.pointer (some ⟨x, 0, none⟩)]) rfl hf hb hnm rfl (hT N3 x gx (y :: ys) zs _ hx0 hg0 (by omega) (by omega) hz (by have h1 : zs.length + (y :: ys).length ≤ _ := hct; have h2 := vecX_lt s; omega) X HJ) (fun _ _ ⟨h1, h2, h3, h4⟩ => ⟨_, h1, rfl, h2, h3, h4⟩)) rfl ?_
      rintro _ w5 ⟨rfl, X5, J5, L5⟩
      replace I := I.lat L5 hN hV hli hlr ni nr; replace F := F.lats L5 (Nat.le_refl _) (fun k hk => by simp [hk]); replace hz := Nat.le_trans hz L5.size
      refine wl_nil ?_
      refine wq_then_norm (hK4 ?_)
      refine wc_region ?_
      refine wl_y (y_move rfl) rfl ?_
      refine wl_y (y_move rfl) rfl ?_
      refine wl_y (y_nilp rfl) rfl ?_
      refine wl_y (y_fieldAddr (o := 1) (s := 1) (off := 0) (o' := 1) rfl Tryz.underlying128 rfl (by kernel_rfl) rfl rfl) rfl ?_
      refine wl_y (y_load1 rfl Tryz.underlying28 rfl (X5.blk.get (i := 1) rfl)) rfl ?_
      refine wl_call Tryz.func79 rfl rfl rfl (note_in (ecode (f (.ok (y :: ys))).2) _ rfl X5.code _ I) rfl ?_
      rintro e w6 ⟨rfl, I6, ex⟩
      refine ⟨_, rfl, ?_⟩
      rw [note_then X5.good] at I6; replace X5 := X5.chs ex (fun k hk => by simp at hk; subst hk; simp [hmi]); replace J5 := hJ _ _ _ _ _ _ (by omega) J5 ex; replace F := F.chs ex; replace hz := Nat.le_trans hz ex.size
      refine wl_nil ?_
      refine wq_blk_norm ?_
      refine wq_then_norm ?_
      refine hL1 _ _ ⟨zs ++ [(f (.ok (y :: ys))).1], (f (.ok (y :: ys))).2, thenX r (f (.ok (y :: ys))).2, rfl, rfl, I6, X5, J5, F, hz, (by rw [List.length_append, List.length_singleton]; omega), hP2⟩ (by omega) ⟨rfl, rfl, rfl, trivial⟩
    · skip
      refine wc_exit ?_
      refine wq_then_exit ?_
      refine wq_then_exit ?_
      refine wq_blk_hit ?_
      refine hret (.inr rfl) ?_
      obtain rfl : ys = [] := List.eq_nil_of_length_eq_zero (by have := hc1; omega)
      have e0 : eachN f n [] = ([], .ok []) := by cases n <;> rfl
      rw [hE, e0, List.append_nil]
      exact ⟨rfl, I, ⟨N3, x, gx, by omega, HJ⟩, F⟩
  · skip
    refine wl_y (y_move rfl) rfl ?_
    refine wl_gno 15 rfl rfl rfl rfl ?_
    refine wl_gno 15 rfl rfl rfl rfl ?_
    refine wl_gno 15 rfl rfl rfl rfl ?_
    refine wl_gno 15 rfl rfl rfl rfl ?_
    refine wl_gno 15 rfl rfl rfl rfl ?_
    refine wl_gno 15 rfl rfl rfl rfl ?_
    refine wl_y (y_pickf rfl rfl) rfl ?_
    refine wl_nil ?_
    refine wq_then_norm (hK3 ?_)
    refine wc_false rfl rfl ?_
    refine wc_exit ?_
    refine wq_then_exit ?_
    refine wq_then_exit ?_
    refine wq_blk_hit ?_
    refine hret (.inr rfl) ?_
    rcases hP with ⟨c, rfl, hE⟩ | ⟨r, ys, n, rfl, _⟩
    · rw [hE]; exact ⟨rfl, I, ⟨N3, x, gx, by omega, HJ⟩, F⟩
    · exact absurd rfl ho
end
end Go.Proofs.YtpgalbgonmclaaaGreat
