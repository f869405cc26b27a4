/- The message layer's reader: what each of its functions hands back and leaves. No conditions: contracts of the program's functions. -/
import Derived.Test.YtpgalbgonmclaaaRowD
namespace Go.Proofs.Ytpgalbgonmclaaa
open Go.RowKit
attribute [local irreducible] Y Ef WL WC WK WQ WM OpM WN WF OpN WJ OpJ WG OpG
open Wire Nd M20
/-- From w to w' what was there below M stays, but for the blocks of V. -/
structure Lat (M : Nat) (V : List Nat) (w w' : World) : Prop where
  os : w'.os = w.os
  tape : w'.tape = w.tape
  output : w'.output = w.output
  size : w.heap.size ≤ w'.heap.size
  block : ∀ k, k < M → k ∉ V → w'.heap[k]? = w.heap[k]?
section
variable {M N k : Nat} {V S S' : List Nat} {w w' w'' : World} {Φ : World → Prop}
theorem Lat.refl (M : Nat) (V : List Nat) (w : World) : Lat M V w w := ⟨rfl, rfl, rfl, Nat.le_refl _, fun _ _ _ => rfl⟩
theorem Lat.tr (h : Lat M V w w') (g : Lat M V w' w'') : Lat M V w w'' := ⟨g.os.trans h.os, g.tape.trans h.tape, g.output.trans h.output, Nat.le_trans h.size g.size, fun k hk hn => (g.block k hk hn).trans (h.block k hk hn)⟩
theorem Chs.lat (h : Chs S w w') (hM : M ≤ w.heap.size) (hS : ∀ k ∈ S, k < M → k ∈ V := by first | (simp; done) | (simp; omega)) : Lat M V w w' := ⟨h.os, h.tape, h.output, h.size, fun k hk hn => h.block k (by omega) fun hm => hn (hS k hm hk)⟩
theorem _root_.Go.RowKit.Below.lat (h : Ext w w') (hM : M ≤ w.heap.size) : Lat M V w w' := (Chs.of h []).lat hM (by simp)
theorem Lat.chs (h : Lat w.heap.size V w w') : Chs V w w' := ⟨h.os, h.tape, h.output, h.size, h.block⟩
theorem Chs.lats (h : Chs S w w') (l : Lat M V w' w'') (hM : w.heap.size ≤ M) (hV : ∀ k ∈ V, k ∈ S) : Chs S w w'' :=
  ⟨l.os.trans h.os, l.tape.trans h.tape, l.output.trans h.output, Nat.le_trans h.size l.size, fun k hk hn => (l.block k (by omega) fun hm => hn (hV k hm)).trans (h.block k hk hn)⟩
theorem Kp.lat (h : Kp N S Φ w) (l : Lat M V w w') (hN : N ≤ M) (hV : ∀ k ∈ V, k ∈ S) : Kp N S Φ w' :=
  ⟨Nat.le_trans h.1 l.size, fun w2 hw => h.2 w2 fun k hk hn => (hw k hk hn).trans (l.block k (by omega) fun hm => hn (hV k hm))⟩
theorem Lat.mono {V' : List Nat} (h : Lat M V w w') (hV : ∀ k ∈ V, k ∈ V') : Lat M V' w w' := ⟨h.os, h.tape, h.output, h.size, fun k hk hn => h.block k hk fun hm => hn (hV k hm)⟩
end
def inV (gr e : Nat) : Array Value := #[.pointer (some ⟨gr, 0, none⟩), .int .u8 (e : Int)]
theorem inV_set (gr e e' : Nat) {z : Int} (hz : z = (e' : Int)) : (inV gr e).setIfInBounds 1 (.int .u8 z) = inV gr e' := by subst hz; rfl
/-- msg's reader: its own error, and wire's reader. -/
def InE (N : Nat) (S : List Nat) (w : World) (gi gr : Nat) (s : St) (e : Nat) : Prop := Blk w gi 156 (inV gr e) ∧ gi ∈ S ∧ gi ≠ gr ∧ Rs N S w gr s
def In (N : Nat) (S : List Nat) (w : World) (gi gr : Nat) : St → Prop
  | .ok xs => InE N S w gi gr (.ok xs) 0
  | .error c => c ≠ 0 ∧ c < 256 ∧ ∃ s, InE N S w gi gr s c
section
variable {N M gi gr k e : Nat} {S S' V : List Nat} {w w' : World} {s : St}
theorem InE.ext (h : InE N S w gi gr s e) (E : Ext w w') : InE N S w' gi gr s e := ⟨h.1.ext E, h.2.1, h.2.2.1, h.2.2.2.ext E⟩
theorem InE.grow (h : InE N S w gi gr s e) (E : Ext w w') (hk : w.heap.size ≤ k) : InE N (k :: S) w' gi gr s e := ⟨h.1.ext E, List.mem_cons_of_mem _ h.2.1, h.2.2.1, h.2.2.2.grow E hk⟩
theorem InE.chs (h : InE N S w gi gr s e) (C : Chs S' w w') (hs : ∀ k ∈ S', k ∈ S := by first | (simp; done) | (simp; assumption)) (hg : gi ∉ S' := by first | (simp; done) | (simp; omega)) (hr : gr ∉ S' := by first | (simp; done) | (simp; omega)) : InE N S w' gi gr s e := ⟨h.1.chs C hg, h.2.1, h.2.2.1, h.2.2.2.chs C hs hr⟩
theorem InE.mono (h : InE N S w gi gr s e) (hs : ∀ k ∈ S', k ∈ S) (hg : gi ∈ S') (hr : gr ∈ S') : InE N S' w gi gr s e := ⟨h.1, hg, h.2.2.1, h.2.2.2.mono hs hr⟩
theorem In.cases (h : In N S w gi gr s) : ∃ t, InE N S w gi gr t (ecode s) ∧ ecode s < 256 ∧ ((∃ xs, s = .ok xs ∧ t = s) ∨ (ecode s ≠ 0 ∧ s = .error (ecode s))) := by
  cases s with
  | ok xs => exact ⟨_, h, by show 0 < 256; omega, .inl ⟨xs, rfl, rfl⟩⟩
  | error c => obtain ⟨h1, h2, t, h⟩ := h; exact ⟨t, h, h2, .inr ⟨h1, rfl⟩⟩
theorem In.blk (h : In N S w gi gr s) : Blk w gi 156 (inV gr (ecode s)) := by obtain ⟨t, h, _⟩ := h.cases; exact h.1
theorem In.ne (h : In N S w gi gr s) : gi ≠ gr := by obtain ⟨t, h, _⟩ := h.cases; exact h.2.2.1
theorem In.lti (h : In N S w gi gr s) : gi < w.heap.size := h.blk.lt
theorem In.ltr (h : In N S w gi gr s) : gr < w.heap.size := by obtain ⟨t, h, _⟩ := h.cases; exact h.2.2.2.lt
theorem In.memi (h : In N S w gi gr s) : gi ∈ S := by obtain ⟨t, h, _⟩ := h.cases; exact h.2.1
theorem In.memr (h : In N S w gi gr s) : gr ∈ S := by obtain ⟨t, h, _⟩ := h.cases; exact h.2.2.2.mem
theorem In.code (h : In N S w gi gr s) : ecode s < 256 := by obtain ⟨t, _, h, _⟩ := h.cases; exact h
theorem In.ext (h : In N S w gi gr s) (E : Ext w w') : In N S w' gi gr s := by
  cases s with
  | ok xs => exact InE.ext h E
  | error c => obtain ⟨h1, h2, t, h⟩ := h; exact ⟨h1, h2, t, h.ext E⟩
theorem In.grow (h : In N S w gi gr s) (E : Ext w w') (hk : w.heap.size ≤ k) : In N (k :: S) w' gi gr s := by
  cases s with
  | ok xs => exact InE.grow h E hk
  | error c => obtain ⟨h1, h2, t, h⟩ := h; exact ⟨h1, h2, t, h.grow E hk⟩
theorem In.chs (h : In N S w gi gr s) (C : Chs S' w w') (hs : ∀ k ∈ S', k ∈ S := by first | (simp; done) | (simp; assumption)) (hg : gi ∉ S' := by first | (simp; done) | (simp; omega)) (hr : gr ∉ S' := by first | (simp; done) | (simp; omega)) : In N S w' gi gr s := by
  cases s with
  | ok xs => exact InE.chs h C hs hg hr
  | error c => obtain ⟨h1, h2, t, h⟩ := h; exact ⟨h1, h2, t, h.chs C hs hg hr⟩
theorem In.mono (h : In N S w gi gr s) (hs : ∀ k ∈ S', k ∈ S) (hg : gi ∈ S') (hr : gr ∈ S') : In N S' w gi gr s := by
  cases s with
  | ok xs => exact InE.mono h hs hg hr
  | error c => obtain ⟨h1, h2, t, h⟩ := h; exact ⟨h1, h2, t, h.mono hs hg hr⟩
theorem Rs.lat (h : Rs N S w k s) (l : Lat M V w w') (hN : N ≤ M) (hV : ∀ k ∈ V, k ∈ S) (hk : k < M) (hn : k ∉ V) : Rs N S w' k s := by
  have key : ∀ {xs e}, Rd N S w k xs e → Rd N S w' k xs e := fun ⟨A, n, c, B, hc, m, K⟩ => ⟨A, n, c, (l.block k hk hn).trans B, hc, m, K.lat l hN hV⟩
  cases s with
  | ok xs => exact key h
  | error c => obtain ⟨h1, h2, xs, h⟩ := h; exact ⟨h1, h2, xs, key h⟩
theorem In.lat (h : In N S w gi gr s) (l : Lat M V w w') (hN : N ≤ M) (hV : ∀ k ∈ V, k ∈ S) (hi : gi < M) (hr : gr < M) (ni : gi ∉ V) (nr : gr ∉ V) : In N S w' gi gr s := by
  have key : ∀ {t e}, InE N S w gi gr t e → InE N S w' gi gr t e := fun ⟨a, b, c, d⟩ => ⟨(l.block gi hi ni).trans a, b, c, d.lat l hN hV hr nr⟩
  cases s with
  | ok xs => exact key h
  | error c => obtain ⟨h1, h2, t, h⟩ := h; exact ⟨h1, h2, t, key h⟩
end
/-! Wire's flag. -/
/-! Notes. -/
def noteX (z : Nat) : St → St
  | .ok xs => if z = 0 then .ok xs else .error z
  | .error c => .error c
section
variable {N gi gr e : Nat} {S : List Nat} {s : St}
theorem note_any (z : Nat) (zi : Int) (hz : zi = (z : Int)) (w : World) (H : InE N S w gi gr s e) :
    Calls Try.prog 159 #[.pointer (some ⟨gi, 0, none⟩), .int .u8 zi] w fun r w' => r = .returned (.tuple #[]) ∧ InE N S w' gi gr s (if e = 0 then z else e) ∧ Chs [gi] w w' := by
  have H0 := H
  obtain ⟨B, hm, hne, R⟩ := H
  refine vc_enter0 13 Try.func159 rfl rfl rfl rfl ?_
  intro Q hret
  refine wc_seq ?_; intro K1 hK1
  refine wc_region ?_
  refine wl_y (y_move rfl) rfl ?_
  refine wl_y (y_nilp rfl) rfl ?_
  refine wl_y (y_fieldAddr (o := 1) (s := 1) (off := 0) (o' := 1) rfl Try.underlying156 rfl (by kernel_rfl) rfl rfl) rfl ?_
  refine wl_y (y_load1 rfl Try.underlying38 rfl (B.get (i := 1) rfl)) rfl ?_
  refine wl_y (y_eql rfl rfl) rfl ?_
  refine wl_nil ?_
  refine wq_then_norm (hK1 ?_)
  refine wc_dec rfl (fun hc1 => ?_) (fun hc1 => ?_)
  · skip
    refine wc_region ?_
    refine wl_y (y_move rfl) rfl ?_
    refine wl_y (y_move rfl) rfl ?_
    refine wl_y (y_nilp rfl) rfl ?_
    refine wl_y (y_fieldAddr (o := 1) (s := 1) (off := 0) (o' := 1) rfl Try.underlying156 rfl (by kernel_rfl) rfl rfl) rfl ?_
    refine wl_ef (ef_storeB rfl rfl rfl (by kernel_rfl) B (by show 1 < 2; omega)) rfl ?_
    rintro _ w1 ⟨rfl, D, cg⟩
    have ex := Chs.one cg
    rw [inV_set gr e z hz] at D
    refine wl_nil ?_
    refine hret (.inr rfl) ?_
    rw [if_pos (by omega)]
    exact ⟨rfl, ⟨D, hm, hne, R.chs ex (by simpa using hm)⟩, ex⟩
  · skip
    refine wc_skip ?_
    refine hret (.inr rfl) ?_
    rw [if_neg (by omega)]
    exact ⟨rfl, H0, Chs.refl _ _⟩
theorem InE.code {w : World} (h : InE N S w gi gr s (ecode s)) : In N S w gi gr s := by
  cases s with
  | ok xs => exact h
  | error c => exact ⟨h.2.2.2.1, h.2.2.2.2.1, _, h⟩
theorem note0_any (z : Nat) (zi : Int) (hz : zi = (z : Int)) (w : World) (H : InE N S w gi gr s 0) :
    Calls Try.prog 159 #[.pointer (some ⟨gi, 0, none⟩), .int .u8 zi] w fun r w' => r = .returned (.tuple #[]) ∧ InE N S w' gi gr s z ∧ Chs [gi] w w' :=
  (note_any z zi hz w H).mono fun _ _ h => by rw [if_pos rfl] at h; exact h
theorem note_in (z : Nat) (zi : Int) (hz : zi = (z : Int)) (h8 : z < 256) (w : World) (H : In N S w gi gr s) :
    Calls Try.prog 159 #[.pointer (some ⟨gi, 0, none⟩), .int .u8 zi] w fun r w' => r = .returned (.tuple #[]) ∧ In N S w' gi gr (noteX z s) ∧ Chs [gi] w w' := by
  cases s with
  | ok xs =>
    refine (note0_any z zi hz w H).mono fun _ _ ⟨h1, h2, h3⟩ => ⟨h1, ?_, h3⟩
    show In N S _ gi gr (if z = 0 then .ok xs else .error z)
    by_cases h : z = 0
    · rw [if_pos h]; subst h; exact h2
    · rw [if_neg h]; exact ⟨h, h8, _, h2⟩
  | error c =>
    obtain ⟨k1, k2, t, H⟩ := H
    refine (note_any z zi hz w H).mono fun _ _ ⟨h1, h2, h3⟩ => ⟨h1, ?_, h3⟩
    rw [if_neg k1] at h2
    exact ⟨k1, k2, t, h2⟩
theorem In.isok {w : World} (h : In N S w gi gr s) (e : ecode s = 0) : ∃ xs, s = .ok xs := by
  cases s with
  | ok xs => exact ⟨xs, rfl⟩
  | error c => exact absurd e h.1
theorem In.iserr {w : World} (h : In N S w gi gr s) (e : ecode s ≠ 0) : ∃ c, s = .error c := by
  cases s with
  | ok xs => exact absurd rfl e
  | error c => exact ⟨c, rfl⟩
theorem inum_any (k : Nat) (z : Int) (hz : z = (k : Int)) (w : World) (hk : k = 1 ∨ k = 2 ∨ k = 4 ∨ k = 8) (H : In N S w gi gr s) :
    Calls Try.prog 115 #[.pointer (some ⟨gi, 0, none⟩), .int .i64 z] w fun e w' => e = .returned (.int .u64 (((numX k s).1 : Nat) : Int)) ∧ In N S w' gi gr (numX k s).2 ∧ Chs [gr, gi] w w' := by
  have F := Chs.refl [gr, gi] w
  have hne := H.ne
  have hmi := H.memi
  refine vc_enter1 25 Try.func115 rfl rfl rfl rfl ?_
  intro Q hret
  refine wc_seq ?_; intro K1 hK1
  refine wc_region ?_
  refine wl_y (y_assign rfl) rfl ?_
  refine wl_nil ?_
  refine wq_then_norm (hK1 ?_)
  refine wc_seq ?_; intro K2 hK2
  refine wc_seq ?_; intro K3 hK3
  refine wc_region ?_
  refine wl_y (y_move rfl) rfl ?_
  refine wl_y (y_nilp rfl) rfl ?_
  refine wl_y (y_fieldAddr (o := 1) (s := 1) (off := 0) (o' := 1) rfl Try.underlying156 rfl (by kernel_rfl) rfl rfl) rfl ?_
  refine wl_y (y_load1 rfl Try.underlying38 rfl (H.blk.get (i := 1) rfl)) rfl ?_
  refine wl_y (y_neq rfl rfl) rfl ?_
  refine wl_nil ?_
  refine wq_then_norm (hK3 ?_)
  refine wc_dec rfl (fun hc1 => ?_) (fun hc1 => ?_)
  · skip
    refine wc_seq ?_; intro K4 hK4
    refine wc_region ?_
    refine wl_y (y_assign rfl) rfl ?_
    refine wl_nil ?_
    refine wq_then_norm (hK4 ?_)
    refine wc_ret ?_
    refine wq_then_ret ?_
    refine hret rfl ?_
    obtain ⟨c, rfl⟩ := H.iserr (by omega)
    exact ⟨rfl, H, F⟩
  · skip
    refine wc_skip ?_
    refine wq_then_norm (hK2 ?_)
    refine wc_seq ?_; intro K5 hK5
    obtain ⟨xs, rfl⟩ := H.isok (by omega)
    have B := H.1
    refine wc_region ?_
    refine wl_y (y_move rfl) rfl ?_
    refine wl_y (y_nilp rfl) rfl ?_
    refine wl_y (y_fieldAddr (o := 0) (s := 1) (off := 0) (o' := 0) rfl Try.underlying156 rfl (by kernel_rfl) rfl rfl) rfl ?_
    refine wl_y (y_load1 rfl Try.underlying154 rfl (B.get (i := 0) rfl)) rfl ?_
    refine wl_y (y_move rfl) rfl ?_
    refine wl_call Try.func162 rfl rfl rfl (rnum_any k z hz _ hk H.2.2.2) rfl ?_
    rintro e w1 ⟨rfl, R1, ex⟩
    refine ⟨_, rfl, ?_⟩
    replace F := F.chs ex
    replace B := B.chs ex
    refine wl_y (y_assign rfl) rfl ?_
    refine wl_nil ?_
    refine wq_then_norm (hK5 ?_)
    refine wc_seq ?_; intro K6 hK6
    refine wc_region ?_
    refine wl_y (y_move rfl) rfl ?_
    refine wl_y (y_move rfl) rfl ?_
    refine wl_y (y_nilp rfl) rfl ?_
    refine wl_y (y_fieldAddr (o := 0) (s := 1) (off := 0) (o' := 0) rfl Try.underlying156 rfl (by kernel_rfl) rfl rfl) rfl ?_
    refine wl_y (y_load1 rfl Try.underlying154 rfl (B.get (i := 0) rfl)) rfl ?_
    refine wl_call Try.func161 rfl rfl rfl (rErr_any _ R1) rfl ?_
    rintro e w2 ⟨rfl, ex⟩
    refine ⟨_, rfl, ?_⟩
    replace F := F.ext ex
    replace B := B.ext ex
    replace R1 := R1.ext ex
    skip
    refine wl_call Try.func159 rfl rfl rfl (note0_any _ _ rfl _ ⟨B, hmi, hne, R1⟩) rfl ?_
    rintro e w3 ⟨rfl, I3, ex⟩
    refine ⟨_, rfl, ?_⟩
    replace F := F.chs ex
    refine wl_nil ?_
    refine wq_then_norm (hK6 ?_)
    refine wc_seq ?_; intro K7 hK7
    refine wc_region ?_
    refine wl_y (y_move rfl) rfl ?_
    refine wl_y (y_assign rfl) rfl ?_
    refine wl_nil ?_
    refine wq_then_norm (hK7 ?_)
    refine wc_ret ?_
    refine hret rfl ?_
    exact ⟨rfl, I3.code, F⟩
theorem ivec_any (w : World) (H : In N S w gi gr s) :
    Calls Try.prog 114 #[.pointer (some ⟨gi, 0, none⟩)] w fun e w' => ∃ A n c, e = .returned (.slice A n c) ∧ n ≤ c ∧ Fb w.heap.size w' A n (vecX s).1 ∧ In N S w' gi gr (vecX s).2 ∧ Chs [gr, gi] w w' := by
  have F := Chs.refl [gr, gi] w
  have hne := H.ne
  have hmi := H.memi
  have hli := H.lti
  have hlr := H.ltr
  refine vc_enter1 22 Try.func114 rfl rfl rfl rfl ?_
  intro Q hret
  refine wc_seq ?_; intro K1 hK1
  refine wc_region ?_
  refine wl_y (y_assign rfl) rfl ?_
  refine wl_nil ?_
  refine wq_then_norm (hK1 ?_)
  refine wc_seq ?_; intro K2 hK2
  refine wc_seq ?_; intro K3 hK3
  refine wc_region ?_
  refine wl_y (y_move rfl) rfl ?_
  refine wl_y (y_nilp rfl) rfl ?_
  refine wl_y (y_fieldAddr (o := 1) (s := 1) (off := 0) (o' := 1) rfl Try.underlying156 rfl (by kernel_rfl) rfl rfl) rfl ?_
  refine wl_y (y_load1 rfl Try.underlying38 rfl (H.blk.get (i := 1) rfl)) rfl ?_
  refine wl_y (y_neq rfl rfl) rfl ?_
  refine wl_nil ?_
  refine wq_then_norm (hK3 ?_)
  refine wc_dec rfl (fun hc1 => ?_) (fun hc1 => ?_)
  · skip
    refine wc_seq ?_; intro K4 hK4
    refine wc_region ?_
    refine wl_y (y_assign rfl) rfl ?_
    refine wl_nil ?_
    refine wq_then_norm (hK4 ?_)
    refine wc_ret ?_
    refine wq_then_ret ?_
    refine hret rfl ?_
    obtain ⟨c, rfl⟩ := H.iserr (by omega)
    exact ⟨none, 0, 0, rfl, Nat.le_refl _, Fb.nil _ _ _, H, F⟩
  · skip
    refine wc_skip ?_
    refine wq_then_norm (hK2 ?_)
    refine wc_seq ?_; intro K5 hK5
    obtain ⟨xs, rfl⟩ := H.isok (by omega)
    have B := H.1
    refine wc_region ?_
    refine wl_y (y_move rfl) rfl ?_
    refine wl_y (y_nilp rfl) rfl ?_
    refine wl_y (y_fieldAddr (o := 0) (s := 1) (off := 0) (o' := 0) rfl Try.underlying156 rfl (by kernel_rfl) rfl rfl) rfl ?_
    refine wl_y (y_load1 rfl Try.underlying154 rfl (B.get (i := 0) rfl)) rfl ?_
    refine wl_call Try.func160 rfl rfl rfl (rVec_any _ H.2.2.2) rfl ?_
    rintro e w1 ⟨A1, n1, c1, rfl, hc1', V1, R1, ex⟩
    refine ⟨_, rfl, ?_⟩
    replace F := F.chs ex
    replace B := B.chs ex; have J1 := V1.kk (S := [gr, gi]) (by simp; omega)
    refine wl_y (y_assign rfl) rfl ?_
    refine wl_nil ?_
    refine wq_then_norm (hK5 ?_)
    refine wc_seq ?_; intro K6 hK6
    refine wc_region ?_
    refine wl_y (y_move rfl) rfl ?_
    refine wl_y (y_move rfl) rfl ?_
    refine wl_y (y_nilp rfl) rfl ?_
    refine wl_y (y_fieldAddr (o := 0) (s := 1) (off := 0) (o' := 0) rfl Try.underlying156 rfl (by kernel_rfl) rfl rfl) rfl ?_
    refine wl_y (y_load1 rfl Try.underlying154 rfl (B.get (i := 0) rfl)) rfl ?_
    refine wl_call Try.func161 rfl rfl rfl (rErr_any _ R1) rfl ?_
    rintro e w2 ⟨rfl, ex⟩
    refine ⟨_, rfl, ?_⟩
    replace F := F.ext ex
    replace B := B.ext ex
    replace R1 := R1.ext ex
    replace J1 := J1.ext ex
    skip
    refine wl_call Try.func159 rfl rfl rfl (note0_any _ _ rfl _ ⟨B, hmi, hne, R1⟩) rfl ?_
    rintro e w3 ⟨rfl, I3, ex⟩
    refine ⟨_, rfl, ?_⟩
    replace F := F.chs ex
    replace J1 := J1.chs ex
    refine wl_nil ?_
    refine wq_then_norm (hK6 ?_)
    refine wc_seq ?_; intro K7 hK7
    refine wc_region ?_
    refine wl_y (y_move rfl) rfl ?_
    refine wl_y (y_assign rfl) rfl ?_
    refine wl_nil ?_
    refine wq_then_norm (hK7 ?_)
    refine wc_ret ?_
    refine hret rfl ?_
    exact ⟨A1, n1, c1, rfl, hc1', J1.out, I3.code, F⟩
theorem just_ne {k n : Nat} (h : (numX k s).1 ≠ n) : justX k n s = noteX 3 (numX k s).2 := by
  unfold justX
  cases (numX k s).2 with
  | ok r => exact if_neg h
  | error c => rfl
theorem just_eq {k n : Nat} (h : (numX k s).1 = n) : justX k n s = (numX k s).2 := by
  unfold justX
  cases (numX k s).2 with
  | ok r => exact if_pos h
  | error c => rfl
theorem ijust_any (k n : Nat) (z u : Int) (hz : z = (k : Int)) (hu : u = (n : Int)) (w : World) (hk : k = 1 ∨ k = 2 ∨ k = 4 ∨ k = 8) (H : In N S w gi gr s) :
    Calls Try.prog 113 #[.pointer (some ⟨gi, 0, none⟩), .int .i64 z, .int .u64 u] w fun e w' => e = .returned (.tuple #[]) ∧ In N S w' gi gr (justX k n s) ∧ Chs [gr, gi] w w' := by
  have F := Chs.refl [gr, gi] w
  refine vc_enter0 13 Try.func113 rfl rfl rfl rfl ?_
  intro Q hret
  refine wc_seq ?_; intro K1 hK1
  refine wc_region ?_
  refine wl_y (y_move rfl) rfl ?_
  refine wl_y (y_move rfl) rfl ?_
  refine wl_call Try.func115 rfl rfl rfl (inum_any k z hz _ hk H) rfl ?_
  rintro e w1 ⟨rfl, H1, ex⟩
  refine ⟨_, rfl, ?_⟩
  replace F := F.chs ex
  refine wl_y (y_move rfl) rfl ?_
  refine wl_y (y_neq rfl rfl) rfl ?_
  refine wl_nil ?_
  refine wq_then_norm (hK1 ?_)
  refine wc_dec rfl (fun hc1 => ?_) (fun hc1 => ?_)
  · skip
    refine wc_region ?_
    refine wl_y (y_move rfl) rfl ?_
    refine wl_call Try.func159 rfl rfl rfl (note_in 3 3 rfl (by omega) _ H1) rfl ?_
    rintro e w2 ⟨rfl, H2, ex⟩
    refine ⟨_, rfl, ?_⟩
    replace F := F.chs ex
    refine wl_nil ?_
    refine hret (.inr rfl) ?_
    rw [just_ne (by omega)]
    exact ⟨rfl, H2, F⟩
  · skip
    refine wc_skip ?_
    refine hret (.inr rfl) ?_
    rw [just_eq (by omega)]
    exact ⟨rfl, H1, F⟩
end
/-! What is in a vector, one behind the other. -/
theorem Rs.bump {N M g : Nat} {S : List Nat} {w : World} {s : St} (h : Rs N S w g s) (h1 : N ≤ M) (h2 : M ≤ w.heap.size) : Rs M S w g s := by
  have key : ∀ {xs e}, Rd N S w g xs e → Rd M S w g xs e := fun ⟨A, n, c, B, hc, m, K⟩ => ⟨A, n, c, B, hc, m, K.bump h1 h2⟩
  cases s with
  | ok xs => exact key h
  | error c => obtain ⟨h1, h2, xs, h⟩ := h; exact ⟨h1, h2, xs, key h⟩
section
variable {N gi gr : Nat} {S V : List Nat} {s : St}
end
end Go.Proofs.Ytpgalbgonmclaaa
