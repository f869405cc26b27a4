/- The reference's welcomes of bytes; the law MsgWelcomes. No conditions: contracts of functions. -/
import Derived.Test.YtpgalbgonmclaaaMuG
namespace Go.Proofs.Ytpgalbgonmclaaa
open Go.RowKit
attribute [local irreducible] Y Ef WL WC WK WQ WM OpM WN WF OpN WJ OpJ WG OpG
open Wire Nd M20
theorem PlS.err {A0 : Option Addr} {n0 : Nat} {b0 : List UInt8} {s : St} {A : Option Addr} {n c t e : Nat} (h : PlS A0 n0 b0 (placeV A n c t e) s) : (e = 0 ∧ ∃ xs, s = .ok xs) ∨ (e ≠ 0 ∧ e < 256 ∧ s = .error e) := by
  obtain ⟨A', n', c', t', e', b', heq, _, _, _, _, hs⟩ := h
  have h1 := congrArg Array.toList heq
  simp only [placeV, List.cons.injEq, Value.int.injEq, true_and, and_true] at h1
  have h2 : e = e' := by omega
  subst h2
  rcases hs with ⟨h1, h2, _⟩ | h
  · exact .inl ⟨h1, _, h2⟩
  · exact .inr h
theorem PlS.seterr {A0 : Option Addr} {n0 : Nat} {b0 : List UInt8} {s : St} {A : Option Addr} {n c t e z : Nat} (h : PlS A0 n0 b0 (placeV A n c t e) s) (hz : z ≠ 0) (h8 : z < 256) : PlS A0 n0 b0 (placeV A n c t z) (.error z) := by
  obtain ⟨A', n', c', t', e', b', heq, hc, hn, hS, hl, hs⟩ := h
  have h1 := congrArg Array.toList heq
  simp only [placeV, List.cons.injEq, Value.int.injEq, Value.slice.injEq, true_and, and_true] at h1
  obtain ⟨⟨rfl, rfl, rfl⟩, h2, h3⟩ := h1
  exact ⟨_, _, _, t, z, b', rfl, hc, hn, hS, hl, .inr ⟨hz, h8, rfl⟩⟩
theorem PlS.note {A0 : Option Addr} {n0 : Nat} {b0 : List UInt8} {A pa : Option Addr} {n c t pn pc pt pe : Nat} {r : List UInt8} {st : St} (h : PlS A0 n0 b0 (placeV A n c t 0) (.ok r)) (hi : PlS A0 n0 b0 (placeV pa pn pc pt pe) st) : PlS A0 n0 b0 (placeV A n c t pe) (thenX r st) := by
  rcases hi.err with ⟨rfl, xs, rfl⟩ | ⟨h1, h2, rfl⟩
  · exact h
  · exact h.seterr h1 h2
theorem thenX_cong {a b : St} (r : List UInt8) (h : thenX [] a = thenX [] b) : thenX r a = thenX r b := by
  cases a <;> cases b <;> first | rfl | (injection h with h; subst h; rfl) | cases h
theorem each_exit {α : Type} {f : St → α × St} {zs : List α} {s st : St} (h1 : (eachN f (vecX s).1.length (vecX s).1).1 = zs) (h2 : thenX [] (eachN f (vecX s).1.length (vecX s).1).2 = thenX [] st) :
    ((∃ r, (vecX s).2 = .ok r ∧ eachX f s = (zs, thenX r st)) ∨ (∃ c, (vecX s).2 = .error c ∧ zs = [] ∧ eachX f s = (zs, .error c))) := by
  rcases st_cases (vecX s).2 with ⟨c, hc⟩ | ⟨q, hq⟩
  · have hv := vecX_err hc
    rw [hv] at h1
    have hz : zs = [] := by rw [← h1]; rfl
    exact .inr ⟨c, hc, hz, by rw [eachX_no hc, hz]⟩
  · exact .inl ⟨q, hq, by rw [eachX_yes hq, h1, thenX_cong q h2]⟩
def EachP {α : Type} (f : St → α × St) (E : List α × St) (zs : List α) (st : St) : Prop := (∃ c, st = .error c ∧ E = (zs, .error c)) ∨ (∃ ys n, st = .ok ys ∧ ys.length ≤ n ∧ E = (zs ++ (eachN f n ys).1, thenX [] (eachN f n ys).2))
theorem EachP.start {α : Type} (f : St → α × St) (v : List UInt8) : EachP f ((eachN f v.length v).1, thenX [] (eachN f v.length v).2) [] (.ok v) := .inr ⟨v, _, rfl, Nat.le_refl _, rfl⟩
theorem EachP.step {α : Type} {f : St → α × St} {E : List α × St} {zs : List α} {y : UInt8} {ys : List UInt8} (h : EachP f E zs (.ok (y :: ys))) (hdec : ∀ y ys r, (f (.ok (y :: ys))).2 = .ok r → r.length < (y :: ys).length) : EachP f E (zs ++ [(f (.ok (y :: ys))).1]) (f (.ok (y :: ys))).2 ∧ slen (f (.ok (y :: ys))).2 < slen (.ok (y :: ys)) := by
  rcases h with ⟨c, e, _⟩ | ⟨ys', n, e, hn, hE⟩
  · cases e
  · injection e with e
    subst e
    obtain ⟨h1, h2⟩ := each_step hn hE hdec
    refine ⟨?_, h2⟩
    rcases h1 with ⟨c, h3, h4⟩ | ⟨r2, ys2, n2, h3, h4, h5, h6⟩
    · refine .inl ⟨c, ?_, h4⟩
      rcases st_cases (f (.ok (y :: ys))).2 with ⟨d, hd⟩ | ⟨q, hq⟩
      · rw [hd] at h3 ⊢; exact h3
      · rw [hq] at h3; cases h3
    · have hr : r2 = [] := by
        rw [h4] at h3
        injection h3 with h3; exact h3.symm
      subst hr
      exact .inr ⟨ys2, n2, h4, h5, h6⟩
theorem EachP.out {α : Type} {f : St → α × St} {a : List α} {b : St} {zs : List α} {st : St} (h : EachP f (a, thenX [] b) zs st) (hm : moreX st = false) : a = zs ∧ thenX [] b = thenX [] st := by
  rcases h with ⟨c, rfl, hE⟩ | ⟨ys, n, rfl, hn, hE⟩
  · injection hE with h1 h2; exact ⟨h1, h2⟩
  · have hy : ys = [] := by
      cases ys with
      | nil => rfl
      | cons y ys => exact absurd hm (by simp [moreX])
    subst hy
    have e0 : eachN f n [] = ([], .ok []) := by cases n <;> rfl
    rw [e0, List.append_nil] at hE
    injection hE with h1 h2; exact ⟨h1, h2⟩
theorem more_yes {st : St} (h : moreX st = true) : ∃ y ys, st = .ok (y :: ys) := by
  cases st with
  | error c => cases h
  | ok xs =>
    cases xs with
    | nil => exact absurd h (by simp [moreX])
    | cons y ys => exact ⟨y, ys, rfl⟩
def GstS (A0 : Option Addr) (n0 : Nat) (b0 : List UInt8) (cs : Array Value) (x : Gst) : Prop := GstC (fun h xs => Sub A0 n0 b0 h.A h.n xs) cs x
def WelR (base : Nat) (A0 : Option Addr) (n0 : Nat) (b0 : List UInt8) (w : World) (cs : Array Value) (x : Wel) : Prop := ∃ h0 h1, cs = twoV h0 h1 ∧ ElsF base (fun _ cs x => GstS A0 n0 b0 cs x) 3 w h0.A h0.n x.guests ∧ Sub A0 n0 b0 h1.A h1.n x.info
theorem WelR.at {base : Nat} {A0 : Option Addr} {n0 : Nat} {b0 : List UInt8} {w : World} {cs : Array Value} {x : Wel} (h : WelR base A0 n0 b0 w cs x) (HA : Bs w A0 n0 b0) : WelAt w cs x := by
  obtain ⟨h0, h1, rfl, a, b⟩ := h
  exact ⟨h0, h1, rfl, a.ats fun _ _ g => GstC.imp g fun _ _ s => s w HA, b w HA⟩
theorem WelR.zero (base : Nat) (A0 : Option Addr) (n0 : Nat) (b0 : List UInt8) (w : World) : WelR base A0 n0 b0 w zWelV Wel.zero := ⟨_, _, rfl, ElsF.nil _ _ _ _ _, Sub.nil _ _ _⟩
theorem rWelcomeOf_any {A : Option Addr} {n c : Nat} {b : List UInt8} (w : World) (HA : Bs w A n b) (hc : n ≤ c) (hn : n ≤ 10000) :
    Calls Try.prog 59 #[.slice A n c] w fun e w' => ∃ cs, e = .returned (.tuple #[.agg cs, .int .i64 (((welOf b).2 : Nat) : Int)]) ∧ WelR w.heap.size A n b w' cs (welOf b).1 ∧ Ext w w' := by
  have F := Chs.refl [] w
  have KA : Kp w.heap.size [] (fun w => Bs w A n b) w := Kp.bs HA (by simp)
  have hbl := HA.1
  have P := PlS.whole (A0 := A) (b0 := b) hc (by omega) hbl
  obtain ⟨s3, hs3⟩ : ∃ s, s = justX 2 1 (justX 2 3 (justX 2 1 (.ok b))) := ⟨_, rfl⟩
  obtain ⟨v, hv⟩ : ∃ v, v = vecX s3 := ⟨_, rfl⟩
  obtain ⟨l, hl⟩ : ∃ l, l = eachX gstX s3 := ⟨_, rfl⟩
  have hX : welX (.ok b) = (⟨l.1, (vecX l.2).1⟩, (vecX l.2).2) := by rw [hl, hs3]; rfl
  have hO : welOf b = wholeX Wel.zero (welX (.ok b)) (decide (okWel (welX (.ok b)).1)) := rfl
  rw [hX] at hO
  have hvl : v.1.length < 1073741824 := by rw [hv]; exact vecX_lt _
  refine vc_enterct (s := 2) 79 Try.func59 rfl rfl rfl Try.underlying80 rfl (by kernel_rfl) rfl ?_
  intro Q hret
  refine wc_seq ?_; intro K1 hK1
  refine wc_region ?_
  refine wl_ef (ef_alloc (Z := #[.slice none 0 0, .slice none 0 0]) (by kernel_rfl)) rfl ?_
  rintro _ wB2 ⟨gB2, rfl, B2, hgB2, ex⟩
  have lB2 := B2.lt; have zB2 := ex.size
  replace F := F.grow ex hgB2
  replace KA := KA.grow ex hgB2
  refine wl_y (y_assign rfl) rfl ?_
  refine wl_nil ?_
  refine wq_then_norm (hK1 ?_)
  refine wc_seq ?_; intro K2 hK2
  refine wc_region ?_
  refine wl_ef (ef_alloc (Z := #[.slice none 0 0, .slice none 0 0]) (by kernel_rfl)) rfl ?_
  rintro _ wB4 ⟨gB4, rfl, B4, hgB4, ex⟩
  have lB4 := B4.lt; have zB4 := ex.size
  have nB2_4 : gB2 < gB4 := Nat.lt_of_lt_of_le B2.lt hgB4
  replace F := F.grow ex hgB4
  replace KA := KA.grow ex hgB4
  replace B2 := B2.grow ex hgB4
  refine wl_nil ?_
  refine wq_then_norm (hK2 ?_)
  refine wc_seq ?_; intro K3 hK3
  refine wc_seq ?_; intro K4 hK4
  refine wc_region ?_
  refine wl_y (y_move rfl) rfl ?_
  refine wl_y (y_len_slice rfl Try.underlying22) rfl ?_
  refine wl_y (y_gtr rfl rfl) rfl ?_
  refine wl_nil ?_
  refine wq_then_norm (hK4 ?_)
  refine wc_no rfl (by omega) ?_
  refine wc_skip ?_
  refine wq_then_norm (hK3 ?_)
  refine wc_seq ?_; intro K5 hK5
  refine wc_region ?_
  refine wl_y (y_move rfl) rfl ?_
  refine wl_y (y_build rfl (cells := placeV A n c 0 0) (by kernel_rfl)) rfl ?_
  refine wl_call Try.func118 rfl rfl rfl (pljust_any 2 1 2 1 rfl rfl _ KA.out P (by omega)) rfl ?_
  rintro e w4 ⟨cs4, rfl, P, ex⟩
  refine ⟨_, rfl, ?_⟩
  replace F := F.ext ex
  replace KA := KA.ext ex
  replace B2 := B2.ext ex
  replace B4 := B4.ext ex
  obtain ⟨A4, n4, c4, t4, e4, rfl, P⟩ := P.get
  refine wl_ef (ef_alloc (Z := #[.slice none 0 0, .int .i64 0, .int .i64 0]) (by kernel_rfl)) rfl ?_
  rintro _ wB5 ⟨gB5, rfl, B5, hgB5, ex⟩
  have lB5 := B5.lt; have zB5 := ex.size
  have nB2_5 : gB2 < gB5 := Nat.lt_of_lt_of_le B2.lt hgB5
  have nB4_5 : gB4 < gB5 := Nat.lt_of_lt_of_le B4.lt hgB5
  replace F := F.grow ex hgB5
  replace KA := KA.grow ex hgB5
  replace B2 := B2.grow ex hgB5
  replace B4 := B4.grow ex hgB5
  refine wl_ef (ef_storeP (o := 0) rfl rfl (by kernel_rfl) B5 (Nat.le_of_ble_eq_true rfl) (all_ones rfl)) rfl ?_
  rintro _ wS4_4 ⟨rfl, D, cg⟩
  have ex := Chs.one cg
  clear cg
  replace F := F.chs ex
  replace KA := KA.chs ex
  replace B2 := B2.chs ex
  replace B4 := B4.chs ex
  replace B5 := D; clear D
  replace B5 := B5.congr (cs' := placeV A4 n4 c4 t4 e4) rfl
  refine wl_nil ?_
  refine wq_then_norm (hK5 ?_)
  refine wc_seq ?_; intro K6 hK6
  refine wc_region ?_
  refine wl_y (y_loadw rfl Try.underlying134 rfl (by kernel_rfl) B5) rfl ?_
  refine wl_call Try.func118 rfl rfl rfl (pljust_any 2 3 2 3 rfl rfl _ KA.out P (by omega)) rfl ?_
  rintro e w5 ⟨cs5, rfl, P, ex⟩
  refine ⟨_, rfl, ?_⟩
  replace F := F.ext ex
  replace KA := KA.ext ex
  replace B2 := B2.ext ex
  replace B4 := B4.ext ex
  replace B5 := B5.ext ex
  obtain ⟨A5, n5, c5, t5, e5, rfl, P⟩ := P.get
  refine wl_ef (ef_storeP (o := 0) rfl rfl (by kernel_rfl) B5 (Nat.le_of_ble_eq_true rfl) (all_ones rfl)) rfl ?_
  rintro _ wS5_2 ⟨rfl, D, cg⟩
  have ex := Chs.one cg
  clear cg
  replace F := F.chs ex
  replace KA := KA.chs ex
  replace B2 := B2.chs ex
  replace B4 := B4.chs ex
  replace B5 := D; clear D
  replace B5 := B5.congr (cs' := placeV A5 n5 c5 t5 e5) rfl
  refine wl_nil ?_
  refine wq_then_norm (hK6 ?_)
  refine wc_seq ?_; intro K7 hK7
  refine wc_region ?_
  refine wl_y (y_loadw rfl Try.underlying134 rfl (by kernel_rfl) B5) rfl ?_
  refine wl_call Try.func118 rfl rfl rfl (pljust_any 2 1 2 1 rfl rfl _ KA.out P (by omega)) rfl ?_
  rintro e w6 ⟨cs6, rfl, P, ex⟩
  refine ⟨_, rfl, ?_⟩
  replace F := F.ext ex
  replace KA := KA.ext ex
  replace B2 := B2.ext ex
  replace B4 := B4.ext ex
  replace B5 := B5.ext ex
  rw [← hs3] at P; obtain ⟨A6, n6, c6, t6, e6, rfl, P⟩ := P.get
  refine wl_ef (ef_storeP (o := 0) rfl rfl (by kernel_rfl) B5 (Nat.le_of_ble_eq_true rfl) (all_ones rfl)) rfl ?_
  rintro _ wS6_2 ⟨rfl, D, cg⟩
  have ex := Chs.one cg
  clear cg
  replace F := F.chs ex
  replace KA := KA.chs ex
  replace B2 := B2.chs ex
  replace B4 := B4.chs ex
  replace B5 := D; clear D
  replace B5 := B5.congr (cs' := placeV A6 n6 c6 t6 e6) rfl
  refine wl_nil ?_
  refine wq_then_norm (hK7 ?_)
  refine wc_seq ?_; intro K8 hK8
  refine wc_region ?_
  refine wl_y (y_loadw rfl Try.underlying134 rfl (by kernel_rfl) B5) rfl ?_
  refine wl_call Try.func119 rfl rfl rfl (plvec_any _ KA.out P) rfl ?_
  rintro e w7 ⟨h7, cs7, rfl, Sh7, lh7, mh7, uh7, P, ex⟩
  refine ⟨_, rfl, ?_⟩
  replace F := F.ext ex
  replace KA := KA.ext ex
  replace B2 := B2.ext ex
  replace B4 := B4.ext ex
  replace B5 := B5.ext ex
  rw [← hv] at P Sh7 lh7; obtain ⟨A7, n7, c7, t7, e7, rfl, P⟩ := P.get
  refine wl_y (y_move rfl) rfl ?_
  refine wl_y (y_extract rfl rfl) rfl ?_
  refine wl_y (y_extract rfl rfl) rfl ?_
  refine wl_y (y_assign rfl) rfl ?_
  refine wl_ef (ef_storeP (o := 0) rfl rfl (by kernel_rfl) B5 (Nat.le_of_ble_eq_true rfl) (all_ones rfl)) rfl ?_
  rintro _ wS7_6 ⟨rfl, D, cg⟩
  have ex := Chs.one cg
  clear cg
  replace F := F.chs ex
  replace KA := KA.chs ex
  replace B2 := B2.chs ex
  replace B4 := B4.chs ex
  replace B5 := D; clear D
  replace B5 := B5.congr (cs' := placeV A7 n7 c7 t7 e7) rfl
  refine wl_nil ?_
  refine wq_then_norm (hK8 ?_)
  refine wc_seq ?_; intro K9 hK9
  refine wc_region ?_
  refine wl_y (y_move rfl) rfl ?_
  refine wl_y (y_build rfl (cells := placeV h7.A h7.n h7.c 0 0) (by kernel_rfl)) rfl ?_
  refine wl_ef (ef_alloc (Z := #[.slice none 0 0, .int .i64 0, .int .i64 0]) (by kernel_rfl)) rfl ?_
  rintro _ wB7 ⟨gB7, rfl, B7, hgB7, ex⟩
  have lB7 := B7.lt; have zB7 := ex.size
  have nB2_7 : gB2 < gB7 := Nat.lt_of_lt_of_le B2.lt hgB7
  have nB4_7 : gB4 < gB7 := Nat.lt_of_lt_of_le B4.lt hgB7
  have nB5_7 : gB5 < gB7 := Nat.lt_of_lt_of_le B5.lt hgB7
  replace F := F.grow ex hgB7
  replace KA := KA.grow ex hgB7
  replace B2 := B2.grow ex hgB7
  replace B4 := B4.grow ex hgB7
  replace B5 := B5.grow ex hgB7
  refine wl_ef (ef_storeP (o := 0) rfl rfl (by kernel_rfl) B7 (Nat.le_of_ble_eq_true rfl) (all_ones rfl)) rfl ?_
  rintro _ wS8_3 ⟨rfl, D, cg⟩
  have ex := Chs.one cg
  clear cg
  replace F := F.chs ex
  replace KA := KA.chs ex
  replace B2 := B2.chs ex
  replace B4 := B4.chs ex
  replace B5 := B5.chs ex
  replace B7 := D; clear D
  replace B7 := B7.congr (cs' := placeV h7.A h7.n h7.c 0 0) rfl
  refine wl_nil ?_
  refine wq_then_norm (hK9 ?_)
  refine wc_seq ?_; intro K10 hK10
  refine wc_block ?_
  have P7 : PlS A n b (placeV h7.A h7.n h7.c 0 0) (.ok v.1) := PlS.inner Sh7 mh7 uh7 lh7
  have q2 := B2.lt; have q4 := B4.lt; have q5 := B5.lt; have q7 := B7.lt; have qF := F.size
  obtain ⟨N3, hN3⟩ : ∃ n, n = wS8_3.heap.size := ⟨_, rfl⟩
  replace B2 := B2.congr (cs' := zWelV) rfl
  replace B4 := B4.congr (cs' := twoV nilH nilH) rfl
  have E0 : ElsK (fun _ cs x => GstS A n b cs x) 3 142 N3 wS8_3.heap.size [gB7, gB5, gB4, gB2] wS8_3 none 0 0 [] := ElsK.empty _ _ _ _ _ _ _
  refine wc_loop (fun n' L wr => ∃ (zs : List Gst) (st : St) (hd : Hd) (pa : Option Addr) (pn pc pt pe : Nat), L = [(2, .pointer (some ⟨gB2, 0, none⟩)), (4, .pointer (some ⟨gB4, 0, none⟩)), (5, .pointer (some ⟨gB5, 0, none⟩)), (7, .pointer (some ⟨gB7, 0, none⟩))] ∧ n' = slen st ∧ (Chs [gB7, gB5, gB4, gB2] w wr ∧ Kp w.heap.size [gB7, gB5, gB4, gB2] (fun w => Bs w A n b) wr ∧ Blk wr gB2 80 zWelV ∧ Blk wr gB4 80 (twoV hd nilH) ∧ Blk wr gB5 134 (placeV A7 n7 c7 t7 e7) ∧ Blk wr gB7 134 (placeV pa pn pc pt pe) ∧ PlS A n b (placeV pa pn pc pt pe) st ∧ ElsK (fun _ cs x => GstS A n b cs x) 3 142 N3 wr.heap.size [gB7, gB5, gB4, gB2] wr hd.A hd.n hd.c zs ∧ N3 ≤ wr.heap.size ∧ zs.length + slen st ≤ v.1.length ∧ EachP gstX ((eachN gstX v.1.length v.1).1, thenX [] (eachN gstX v.1.length v.1).2) zs st)) _ _ ⟨[], .ok v.1, nilH, h7.A, h7.n, h7.c, 0, 0, rfl, rfl, F, KA, B2, B4, B5, B7, P7, E0, (by omega), (by show 0 + v.1.length ≤ _; omega), EachP.start _ _⟩ ⟨rfl, rfl, rfl, rfl, trivial⟩ ?_
  rintro KL1 n' L wr ⟨zs, st, hd, pa, pn, pc, pt, pe, rfl, rfl, F, KA, B2, B4, B5, B7, Q, EK, hNr, hct, hP⟩ hL1
  have G := Chs.refl [gB7] wr
  have hown := EK.own
  have hlen := EK.len
  have qr := F.size
  refine wc_seq ?_; intro K11 hK11
  refine wc_seq ?_; intro K12 hK12
  refine wc_region ?_
  refine wl_y (y_loadw rfl Try.underlying134 rfl (by kernel_rfl) B7) rfl ?_
  refine wl_call Try.func131 rfl rfl rfl (plmore_any _ Q) rfl ?_
  rintro e w9 ⟨rfl, ex⟩
  refine ⟨_, rfl, ?_⟩
  replace F := F.ext ex
  replace KA := KA.ext ex
  replace B2 := B2.ext ex
  replace B4 := B4.ext ex
  replace B5 := B5.ext ex
  replace B7 := B7.ext ex
  replace G := G.ext ex
  skip
  refine wl_nil ?_
  refine wq_then_norm (hK12 ?_)
  refine wc_cond rfl (fun hc2 => ?_) (fun hc2 => ?_)
  · skip
    refine wc_skip ?_
    refine wq_then_norm (hK11 ?_)
    refine wc_block ?_
    refine wc_seq ?_; intro K13 hK13
    obtain ⟨y, ys, rfl⟩ := more_yes hc2
    obtain ⟨hP2, hm⟩ := hP.step gst_dec
    have hct' : zs.length + (y :: ys).length ≤ v.1.length := hct
    have P := Q
    refine wc_region ?_
    have z7 := G.size
    refine wl_ef (ef_alloc (Z := #[.slice none 0 0, .slice none 0 0, .slice none 0 0]) (by kernel_rfl)) rfl ?_
    rintro _ wB8 ⟨gB8, rfl, B8, hgB8, ex⟩
    have lB8 := B8.lt; have zB8 := ex.size
    have nB2_8 : gB2 < gB8 := Nat.lt_of_lt_of_le B2.lt hgB8
    have nB4_8 : gB4 < gB8 := Nat.lt_of_lt_of_le B4.lt hgB8
    have nB5_8 : gB5 < gB8 := Nat.lt_of_lt_of_le B5.lt hgB8
    have nB7_8 : gB7 < gB8 := Nat.lt_of_lt_of_le B7.lt hgB8
    replace F := F.grow ex hgB8
    replace KA := KA.grow ex hgB8
    replace B2 := B2.grow ex hgB8
    replace B4 := B4.grow ex hgB8
    replace B5 := B5.grow ex hgB8
    replace B7 := B7.grow ex hgB8
    replace G := G.grow ex hgB8
    refine wl_nil ?_
    refine wq_then_norm (hK13 ?_)
    refine wc_seq ?_; intro K14 hK14
    refine wc_region ?_
    have z8 := G.size; have z9 := F.size
    refine wl_y (y_loadw rfl Try.underlying134 rfl (by kernel_rfl) B7) rfl ?_
    refine wl_call Try.func119 rfl rfl rfl (plvec_any _ KA.out P) rfl ?_
    rintro e w11 ⟨h11, cs11, rfl, Sh11, lh11, mh11, uh11, P, ex⟩
    refine ⟨_, rfl, ?_⟩
    replace F := F.ext ex
    replace KA := KA.ext ex
    replace B2 := B2.ext ex
    replace B4 := B4.ext ex
    replace B5 := B5.ext ex
    replace B7 := B7.ext ex
    replace G := G.ext ex
    replace B8 := B8.ext ex
    obtain ⟨A11, n11, c11, t11, e11, rfl, P⟩ := P.get
    refine wl_y (y_move rfl) rfl ?_
    refine wl_y (y_extract rfl rfl) rfl ?_
    refine wl_y (y_extract rfl rfl) rfl ?_
    refine wl_y (y_fieldAddr (o := 0) (s := 1) (off := 0) (o' := 0) rfl Try.underlying142 rfl (by kernel_rfl) rfl rfl) rfl ?_
    refine wl_ef (ef_storeB (i := 0) rfl rfl rfl (by kernel_rfl) B8 (Nat.le_of_ble_eq_true rfl)) rfl ?_
    rintro _ wS11_6 ⟨rfl, D, cg⟩
    have ex := Chs.one cg
    clear cg
    replace F := F.chs ex
    replace KA := KA.chs ex
    replace B2 := B2.chs ex
    replace B4 := B4.chs ex
    replace B5 := B5.chs ex
    replace B7 := B7.chs ex
    replace G := G.chs ex
    replace B8 := D; clear D
    refine wl_ef (ef_storeP (o := 0) rfl rfl (by kernel_rfl) B7 (Nat.le_of_ble_eq_true rfl) (all_ones rfl)) rfl ?_
    rintro _ wS11_7 ⟨rfl, D, cg⟩
    have ex := Chs.one cg
    clear cg
    replace F := F.chs ex
    replace KA := KA.chs ex
    replace B2 := B2.chs ex
    replace B4 := B4.chs ex
    replace B5 := B5.chs ex
    replace G := G.chs ex
    replace B8 := B8.chs ex
    replace B7 := D; clear D
    replace B7 := B7.congr (cs' := placeV A11 n11 c11 t11 e11) rfl
    refine wl_nil ?_
    refine wq_then_norm (hK14 ?_)
    refine wc_seq ?_; intro K15 hK15
    refine wc_region ?_
    refine wl_y (y_loadw rfl Try.underlying134 rfl (by kernel_rfl) B7) rfl ?_
    refine wl_call Try.func119 rfl rfl rfl (plvec_any _ KA.out P) rfl ?_
    rintro e w12 ⟨h12, cs12, rfl, Sh12, lh12, mh12, uh12, P, ex⟩
    refine ⟨_, rfl, ?_⟩
    replace F := F.ext ex
    replace KA := KA.ext ex
    replace B2 := B2.ext ex
    replace B4 := B4.ext ex
    replace B5 := B5.ext ex
    replace B7 := B7.ext ex
    replace G := G.ext ex
    replace B8 := B8.ext ex
    obtain ⟨A12, n12, c12, t12, e12, rfl, P⟩ := P.get
    refine wl_y (y_move rfl) rfl ?_
    refine wl_y (y_extract rfl rfl) rfl ?_
    refine wl_y (y_extract rfl rfl) rfl ?_
    refine wl_y (y_fieldAddr (o := 1) (s := 2) (off := 0) (o' := 1) rfl Try.underlying142 rfl (by kernel_rfl) rfl rfl) rfl ?_
    refine wl_y (y_fieldAddr (o := 0) (s := 1) (off := 1) (o' := 1) rfl Try.underlying111 rfl (by kernel_rfl) rfl rfl) rfl ?_
    refine wl_ef (ef_storeB (i := 1) rfl rfl rfl (by kernel_rfl) B8 (Nat.le_of_ble_eq_true rfl)) rfl ?_
    rintro _ wS12_7 ⟨rfl, D, cg⟩
    have ex := Chs.one cg
    clear cg
    replace F := F.chs ex
    replace KA := KA.chs ex
    replace B2 := B2.chs ex
    replace B4 := B4.chs ex
    replace B5 := B5.chs ex
    replace B7 := B7.chs ex
    replace G := G.chs ex
    replace B8 := D; clear D
    refine wl_ef (ef_storeP (o := 0) rfl rfl (by kernel_rfl) B7 (Nat.le_of_ble_eq_true rfl) (all_ones rfl)) rfl ?_
    rintro _ wS12_8 ⟨rfl, D, cg⟩
    have ex := Chs.one cg
    clear cg
    replace F := F.chs ex
    replace KA := KA.chs ex
    replace B2 := B2.chs ex
    replace B4 := B4.chs ex
    replace B5 := B5.chs ex
    replace G := G.chs ex
    replace B8 := B8.chs ex
    replace B7 := D; clear D
    replace B7 := B7.congr (cs' := placeV A12 n12 c12 t12 e12) rfl
    refine wl_nil ?_
    refine wq_then_norm (hK15 ?_)
    refine wc_seq ?_; intro K16 hK16
    refine wc_region ?_
    refine wl_y (y_loadw rfl Try.underlying134 rfl (by kernel_rfl) B7) rfl ?_
    refine wl_call Try.func119 rfl rfl rfl (plvec_any _ KA.out P) rfl ?_
    rintro e w13 ⟨h13, cs13, rfl, Sh13, lh13, mh13, uh13, P, ex⟩
    refine ⟨_, rfl, ?_⟩
    replace F := F.ext ex
    replace KA := KA.ext ex
    replace B2 := B2.ext ex
    replace B4 := B4.ext ex
    replace B5 := B5.ext ex
    replace B7 := B7.ext ex
    replace G := G.ext ex
    replace B8 := B8.ext ex
    obtain ⟨A13, n13, c13, t13, e13, rfl, P⟩ := P.get
    refine wl_y (y_move rfl) rfl ?_
    refine wl_y (y_extract rfl rfl) rfl ?_
    refine wl_y (y_extract rfl rfl) rfl ?_
    refine wl_y (y_fieldAddr (o := 1) (s := 2) (off := 0) (o' := 1) rfl Try.underlying142 rfl (by kernel_rfl) rfl rfl) rfl ?_
    refine wl_y (y_fieldAddr (o := 1) (s := 1) (off := 1) (o' := 2) rfl Try.underlying111 rfl (by kernel_rfl) rfl rfl) rfl ?_
    refine wl_ef (ef_storeB (i := 2) rfl rfl rfl (by kernel_rfl) B8 (Nat.le_of_ble_eq_true rfl)) rfl ?_
    rintro _ wS13_7 ⟨rfl, D, cg⟩
    have ex := Chs.one cg
    clear cg
    replace F := F.chs ex
    replace KA := KA.chs ex
    replace B2 := B2.chs ex
    replace B4 := B4.chs ex
    replace B5 := B5.chs ex
    replace B7 := B7.chs ex
    replace G := G.chs ex
    replace B8 := D; clear D
    refine wl_ef (ef_storeP (o := 0) rfl rfl (by kernel_rfl) B7 (Nat.le_of_ble_eq_true rfl) (all_ones rfl)) rfl ?_
    rintro _ wS13_8 ⟨rfl, D, cg⟩
    have ex := Chs.one cg
    clear cg
    replace F := F.chs ex
    replace KA := KA.chs ex
    replace B2 := B2.chs ex
    replace B4 := B4.chs ex
    replace B5 := B5.chs ex
    replace G := G.chs ex
    replace B8 := B8.chs ex
    replace B7 := D; clear D
    replace B7 := B7.congr (cs' := placeV A13 n13 c13 t13 e13) rfl
    refine wl_nil ?_
    refine wq_then_norm (hK16 ?_)
    refine wc_region ?_
    refine wl_y (y_fieldAddr (o := 0) (s := 1) (off := 0) (o' := 0) rfl Try.underlying80 rfl (by kernel_rfl) rfl rfl) rfl ?_
    refine wl_y (y_load1 rfl Try.underlying78 rfl (B4.get (i := 0) rfl)) rfl ?_
    refine wl_y (y_loadx (o := 0) (s := 3) rfl Try.underlying142 rfl (by kernel_rfl) B8 rfl) rfl ?_
    refine wl_ef (ef_litS (cells := thrV h11 h12 h13) Try.underlying78 rfl (by kernel_rfl)) rfl ?_
    rintro _ w14 ⟨g53, rfl, B53, hg53, ex⟩
    replace F := F.ext ex
    replace KA := KA.ext ex
    replace B2 := B2.ext ex
    replace B4 := B4.ext ex
    replace B5 := B5.ext ex
    replace B7 := B7.ext ex
    replace G := G.ext ex
    replace B8 := B8.ext ex
    skip
    have z3 := G.size
    have EK2 := (EK.chs (G.drop (by omega)) (by simp) (by simp; omega)).bump z3 (Nat.le_refl _)
    obtain ⟨hl', vals, hr, hk⟩ := EK2
    refine wl_ef (ef_appW (A := hd.A) (n := hd.n) (c := hd.c) rfl rfl eltGst hr B53 rfl (all_ones rfl) (by rw [List.length_cons] at hct'; omega) (by rw [List.length_cons] at hct'; omega) (by omega)) rfl ?_
    rintro _ w15 ⟨A15, c15, rfl, R4, gr4, hgl⟩
    have L4 : Lat N3 [] w14 w15 := lat_own gr4 (by omega) fun k hk => (hown k hk).1
    have HE : ElsK (fun _ cs x => GstS A n b cs x) 3 142 N3 w14.heap.size [gB7, gB5, gB4, gB2] w15 A15 (hd.n + 1) c15 (zs ++ [(gstX (.ok (y :: ys))).1]) := ElsK.app (cs := thrV h11 h12 h13) hl' hr hk ⟨Nat.le_refl _, fun _ _ => ⟨_, _, _, rfl, Sh11, Sh12, Sh13⟩⟩ rfl R4 gr4 hgl
    have B2 : Blk w15 gB2 80 zWelV := (L4.block gB2 (by omega) (by simp)).trans B2
    have B4 : Blk w15 gB4 80 (twoV hd nilH) := (L4.block gB4 (by omega) (by simp)).trans B4
    have B5 : Blk w15 gB5 134 (placeV A7 n7 c7 t7 e7) := (L4.block gB5 (by omega) (by simp)).trans B5
    have B7 : Blk w15 gB7 134 (placeV A13 n13 c13 t13 e13) := (L4.block gB7 (by omega) (by simp)).trans B7
    replace KA := KA.lat L4 (by omega) (by simp)
    replace F := F.lats L4 (by omega) (by simp)
    have z15 := L4.size 
    refine wl_y (y_fieldAddr (o := 0) (s := 1) (off := 0) (o' := 0) rfl Try.underlying80 rfl (by kernel_rfl) rfl rfl) rfl ?_
    refine wl_ef (ef_storeB (i := 0) rfl rfl rfl (by kernel_rfl) B4 (Nat.le_of_ble_eq_true rfl)) rfl ?_
    rintro _ wS14_6 ⟨rfl, D, cg⟩
    have ex := Chs.one cg
    clear cg
    replace F := F.chs ex
    replace KA := KA.chs ex
    replace B2 := B2.chs ex
    replace B5 := B5.chs ex
    replace B7 := B7.chs ex
    replace HE := HE.chs ex
    replace B4 := D; clear D
    replace B4 := B4.congr (cs' := twoV ⟨A15, hd.n + 1, c15⟩ nilH) rfl
    refine wl_nil ?_
    refine wq_blk_norm ?_
    refine wq_then_norm ?_
    refine hL1 _ _ ⟨zs ++ [(gstX (.ok (y :: ys))).1], (gstX (.ok (y :: ys))).2, ⟨A15, hd.n + 1, c15⟩, A13, n13, c13, t13, e13, rfl, rfl, F.drop (by omega), KA.mono (fun k hk => List.mem_cons_of_mem _ hk), B2, B4, B5, B7, P, HE.bump (by have := ex.size; omega) (Nat.le_refl _), (by have := ex.size; omega), (by rw [List.length_append, List.length_singleton]; omega), hP2⟩ (by omega) ⟨rfl, rfl, rfl, rfl, trivial⟩
  · skip
    refine wc_exit ?_
    refine wq_then_exit ?_
    refine wq_then_exit ?_
    refine wq_blk_hit ?_
    refine wq_then_norm (hK10 ?_)
    refine wc_seq ?_; intro K17 hK17
    refine wc_seq ?_; intro K18 hK18
    obtain ⟨hz1, hz2⟩ := hP.out (by simpa using hc2)
    rw [hv] at hz1 hz2
    have hex := each_exit hz1 hz2
    rw [← hv, ← hl] at hex
    have hErr := P.err
    have EKF := (EK.chs G (by simp) (by simp; omega)).els
    have KE : Kp _ [gB5, gB4, gB2] (fun w => ElsF N3 (fun _ cs x => GstS A n b cs x) 3 w hd.A hd.n zs) _ := EKF.kk (by omega) (by simp; omega) (fun _ _ h => ⟨Nat.le_refl _, fun _ _ => h⟩)
    refine wc_region ?_
    refine wl_y (y_fieldAddr (o := 2) (s := 1) (off := 0) (o' := 2) rfl Try.underlying134 rfl (by kernel_rfl) rfl rfl) rfl ?_
    refine wl_y (y_load1 rfl Try.underlying3 rfl (B5.get (i := 2) rfl)) rfl ?_
    refine wl_y (y_eql rfl rfl) rfl ?_
    refine wl_nil ?_
    refine wq_then_norm (hK18 ?_)
    refine wc_dec rfl (fun hc3 => ?_) (fun hc3 => ?_)
    · skip
      refine wc_region ?_
      refine wl_y (y_fieldAddr (o := 2) (s := 1) (off := 0) (o' := 2) rfl Try.underlying134 rfl (by kernel_rfl) rfl rfl) rfl ?_
      refine wl_y (y_load1 rfl Try.underlying3 rfl (B7.get (i := 2) rfl)) rfl ?_
      refine wl_y (y_fieldAddr (o := 2) (s := 1) (off := 0) (o' := 2) rfl Try.underlying134 rfl (by kernel_rfl) rfl rfl) rfl ?_
      refine wl_ef (ef_storeB (i := 2) rfl rfl rfl (by kernel_rfl) B5 (Nat.le_of_ble_eq_true rfl)) rfl ?_
      rintro _ wS16_3 ⟨rfl, D, cg⟩
      have ex := Chs.one cg
      clear cg
      replace F := F.chs ex
      replace KA := KA.chs ex
      replace B2 := B2.chs ex
      replace B4 := B4.chs ex
      replace KE := KE.chs ex
      replace B5 := D; clear D
      replace B5 := B5.congr (placeV_set (e' := pe) rfl)
      refine wl_nil ?_
      refine wq_then_norm (hK17 ?_)
      refine wc_seq ?_; intro K19 hK19
      obtain ⟨he0, r, hr⟩ : e7 = 0 ∧ ∃ r, v.2 = .ok r := hErr.elim id (fun h => by omega)
      obtain ⟨r', h1, h2⟩ : ∃ r, v.2 = .ok r ∧ l = (zs, thenX r st) := hex.elim id (fun ⟨c, h, _⟩ => by rw [hr] at h; cases h)
      have hl1 : l.1 = zs := by rw [h2]
      rw [h1, he0] at P
      replace P : PlS A n b (placeV A7 n7 c7 t7 pe) l.2 := by rw [h2]; exact P.note Q
      refine wc_region ?_
      refine wl_y (y_loadw rfl Try.underlying134 rfl (by kernel_rfl) B5) rfl ?_
      refine wl_call Try.func119 rfl rfl rfl (plvec_any _ KA.out P) rfl ?_
      rintro e w17 ⟨h17, cs17, rfl, Sh17, lh17, mh17, uh17, P, ex⟩
      refine ⟨_, rfl, ?_⟩
      replace F := F.ext ex
      replace KA := KA.ext ex
      replace B2 := B2.ext ex
      replace B4 := B4.ext ex
      replace B5 := B5.ext ex
      replace KE := KE.ext ex
      obtain ⟨A17, n17, c17, t17, e17, rfl, P⟩ := P.get
      refine wl_y (y_move rfl) rfl ?_
      refine wl_y (y_extract rfl rfl) rfl ?_
      refine wl_y (y_extract rfl rfl) rfl ?_
      refine wl_y (y_fieldAddr (o := 1) (s := 1) (off := 0) (o' := 1) rfl Try.underlying80 rfl (by kernel_rfl) rfl rfl) rfl ?_
      refine wl_ef (ef_storeB (i := 1) rfl rfl rfl (by kernel_rfl) B4 (Nat.le_of_ble_eq_true rfl)) rfl ?_
      rintro _ wS17_6 ⟨rfl, D, cg⟩
      have ex := Chs.one cg
      clear cg
      replace F := F.chs ex
      replace KA := KA.chs ex
      replace B2 := B2.chs ex
      replace B5 := B5.chs ex
      replace KE := KE.chs ex
      replace B4 := D; clear D
      refine wl_ef (ef_storeP (o := 0) rfl rfl (by kernel_rfl) B5 (Nat.le_of_ble_eq_true rfl) (all_ones rfl)) rfl ?_
      rintro _ wS17_7 ⟨rfl, D, cg⟩
      have ex := Chs.one cg
      clear cg
      replace F := F.chs ex
      replace KA := KA.chs ex
      replace B2 := B2.chs ex
      replace B4 := B4.chs ex
      replace KE := KE.chs ex
      replace B5 := D; clear D
      replace B5 := B5.congr (cs' := placeV A17 n17 c17 t17 e17) rfl
      refine wl_nil ?_
      refine wq_then_norm (hK19 ?_)
      refine wc_seq ?_; intro K20 hK20
      refine wc_seq ?_; intro K21 hK21
      refine wc_region ?_
      refine wl_y (y_loadw rfl Try.underlying134 rfl (by kernel_rfl) B5) rfl ?_
      refine wl_call Try.func121 rfl rfl rfl (plend_any _ P) rfl ?_
      rintro e w18 ⟨rfl, ex⟩
      refine ⟨_, rfl, ?_⟩
      replace F := F.ext ex
      replace KA := KA.ext ex
      replace B2 := B2.ext ex
      replace B4 := B4.ext ex
      replace B5 := B5.ext ex
      replace KE := KE.ext ex
      skip
      refine wl_y (y_assign rfl) rfl ?_
      refine wl_nil ?_
      refine wq_then_norm (hK21 ?_)
      refine wc_seq ?_; intro K22 hK22
      refine wc_region ?_
      replace B4 := B4.congr (cs' := twoV hd h17) rfl
      have q9 := F.size
      refine wl_y (y_move rfl) rfl ?_
      refine wl_y (y_neq rfl rfl) rfl ?_
      refine wl_nil ?_
      refine wq_then_norm (hK22 ?_)
      refine wc_dec rfl (fun hc4 => ?_) (fun hc4 => ?_)
      · skip
        refine wc_seq ?_; intro K23 hK23
        refine wc_region ?_
        refine wl_y (y_build rfl (cells := zWelV) (by kernel_rfl)) rfl ?_
        refine wl_y (y_move rfl) rfl ?_
        refine wl_ef (ef_storeP (o := 0) rfl rfl (by kernel_rfl) B2 (Nat.le_of_ble_eq_true rfl) (all_ones rfl)) rfl ?_
        rintro _ wS20_2 ⟨rfl, D, cg⟩
        have ex := Chs.one cg
        clear cg
        replace F := F.chs ex
        replace KA := KA.chs ex
        replace B4 := B4.chs ex
        replace B5 := B5.chs ex
        replace KE := KE.chs ex
        replace B2 := D; clear D
        replace B2 := B2.congr (cs' := zWelV) rfl
        refine wl_y (y_assign rfl) rfl ?_
        refine wl_nil ?_
        refine wq_then_norm (hK23 ?_)
        refine wc_ret ?_
        refine wq_then_ret ?_
        refine hret rfl rfl B2 rfl ?_
        rw [hO]; unfold wholeX; rw [if_pos (show endX (vecX l.2).2 ≠ 0 by omega)]; exact ⟨_, rfl, WelR.zero _ _ _ _ _, ((((F.drop (by omega)).drop (by omega)).drop (by omega)).drop (by omega)) |>.toExt (by simp)⟩
      · skip
        refine wc_skip ?_
        refine wq_then_norm (hK20 ?_)
        refine wc_seq ?_; intro K24 hK24
        refine wc_seq ?_; intro K25 hK25
        refine wc_region ?_
        refine wl_y (y_loadw rfl Try.underlying80 rfl (by kernel_rfl) B4) rfl ?_
        have WS : ∀ w2, ElsF N3 (fun _ cs x => GstS A n b cs x) 3 w2 hd.A hd.n zs → WelR w.heap.size A n b w2 (twoV hd h17) ⟨l.1, (vecX l.2).1⟩ := fun w2 h => ⟨_, _, rfl, by rw [hl1]; exact h.mono (by omega) (fun _ _ h => h), Sh17⟩
        refine wl_call Try.func55 rfl rfl rfl (rWelcome_any _ ((WS _ KE.out).at KA.out) (by show l.1.length ≤ 1000000; rw [hl1]; have h1 : zs.length + slen st ≤ v.1.length := hct; omega)) rfl ?_
        rintro e w21 ⟨rfl, ex⟩
        refine ⟨_, rfl, ?_⟩
        replace F := F.ext ex
        replace KA := KA.ext ex
        replace B2 := B2.ext ex
        replace B4 := B4.ext ex
        replace B5 := B5.ext ex
        replace KE := KE.ext ex
        skip
        refine wl_y (y_not rfl) rfl ?_
        refine wl_nil ?_
        refine wq_then_norm (hK25 ?_)
        refine wc_cond rfl (fun hc5 => ?_) (fun hc5 => ?_)
        · skip
          refine wc_seq ?_; intro K26 hK26
          refine wc_region ?_
          refine wl_y (y_build rfl (cells := zWelV) (by kernel_rfl)) rfl ?_
          refine wl_ef (ef_storeP (o := 0) rfl rfl (by kernel_rfl) B2 (Nat.le_of_ble_eq_true rfl) (all_ones rfl)) rfl ?_
          rintro _ wS22_1 ⟨rfl, D, cg⟩
          have ex := Chs.one cg
          clear cg
          replace F := F.chs ex
          replace KA := KA.chs ex
          replace B4 := B4.chs ex
          replace B5 := B5.chs ex
          replace KE := KE.chs ex
          replace B2 := D; clear D
          replace B2 := B2.congr (cs' := zWelV) rfl
          refine wl_y (y_assign rfl) rfl ?_
          refine wl_nil ?_
          refine wq_then_norm (hK26 ?_)
          refine wc_ret ?_
          refine wq_then_ret ?_
          refine hret rfl rfl B2 rfl ?_
          rw [hO]; unfold wholeX; rw [if_neg (show ¬ endX (vecX l.2).2 ≠ 0 by omega), if_neg (by simpa using hc5)]; exact ⟨_, rfl, WelR.zero _ _ _ _ _, ((((F.drop (by omega)).drop (by omega)).drop (by omega)).drop (by omega)) |>.toExt (by simp)⟩
        · skip
          refine wc_skip ?_
          refine wq_then_norm (hK24 ?_)
          refine wc_seq ?_; intro K27 hK27
          refine wc_region ?_
          refine wl_y (y_loadw rfl Try.underlying80 rfl (by kernel_rfl) B4) rfl ?_
          refine wl_ef (ef_storeP (o := 0) rfl rfl (by kernel_rfl) B2 (Nat.le_of_ble_eq_true rfl) (all_ones rfl)) rfl ?_
          rintro _ wS23_1 ⟨rfl, D, cg⟩
          have ex := Chs.one cg
          clear cg
          replace F := F.chs ex
          replace KA := KA.chs ex
          replace B4 := B4.chs ex
          replace B5 := B5.chs ex
          replace KE := KE.chs ex
          replace B2 := D; clear D
          replace B2 := B2.congr (cs' := twoV hd h17) rfl
          refine wl_y (y_assign rfl) rfl ?_
          refine wl_nil ?_
          refine wq_then_norm (hK27 ?_)
          refine wc_ret ?_
          refine hret rfl rfl B2 rfl ?_
          rw [hO]; unfold wholeX; rw [if_neg (show ¬ endX (vecX l.2).2 ≠ 0 by omega), if_pos (by simpa using hc5)]; exact ⟨_, rfl, WS _ KE.out, ((((F.drop (by omega)).drop (by omega)).drop (by omega)).drop (by omega)) |>.toExt (by simp)⟩
    · skip
      refine wc_skip ?_
      refine wq_then_norm (hK17 ?_)
      refine wc_seq ?_; intro K28 hK28
      obtain ⟨he0, _, hr⟩ : e7 ≠ 0 ∧ e7 < 256 ∧ v.2 = .error e7 := hErr.elim (fun h => by omega) id
      obtain ⟨c', h1, _, h2⟩ : ∃ c, v.2 = .error c ∧ zs = [] ∧ l = (zs, .error c) := hex.elim (fun ⟨r, h, _⟩ => by rw [hr] at h; cases h) id
      have hl1 : l.1 = zs := by rw [h2]
      replace P : PlS A n b (placeV A7 n7 c7 t7 e7) l.2 := by rw [h2, ← h1]; exact P
      refine wc_region ?_
      refine wl_y (y_loadw rfl Try.underlying134 rfl (by kernel_rfl) B5) rfl ?_
      refine wl_call Try.func119 rfl rfl rfl (plvec_any _ KA.out P) rfl ?_
      rintro e w17 ⟨h17, cs17, rfl, Sh17, lh17, mh17, uh17, P, ex⟩
      refine ⟨_, rfl, ?_⟩
      replace F := F.ext ex
      replace KA := KA.ext ex
      replace B2 := B2.ext ex
      replace B4 := B4.ext ex
      replace B5 := B5.ext ex
      replace KE := KE.ext ex
      obtain ⟨A17, n17, c17, t17, e17, rfl, P⟩ := P.get
      refine wl_y (y_move rfl) rfl ?_
      refine wl_y (y_extract rfl rfl) rfl ?_
      refine wl_y (y_extract rfl rfl) rfl ?_
      refine wl_y (y_fieldAddr (o := 1) (s := 1) (off := 0) (o' := 1) rfl Try.underlying80 rfl (by kernel_rfl) rfl rfl) rfl ?_
      refine wl_ef (ef_storeB (i := 1) rfl rfl rfl (by kernel_rfl) B4 (Nat.le_of_ble_eq_true rfl)) rfl ?_
      rintro _ wS17_6 ⟨rfl, D, cg⟩
      have ex := Chs.one cg
      clear cg
      replace F := F.chs ex
      replace KA := KA.chs ex
      replace B2 := B2.chs ex
      replace B5 := B5.chs ex
      replace KE := KE.chs ex
      replace B4 := D; clear D
      refine wl_ef (ef_storeP (o := 0) rfl rfl (by kernel_rfl) B5 (Nat.le_of_ble_eq_true rfl) (all_ones rfl)) rfl ?_
      rintro _ wS17_7 ⟨rfl, D, cg⟩
      have ex := Chs.one cg
      clear cg
      replace F := F.chs ex
      replace KA := KA.chs ex
      replace B2 := B2.chs ex
      replace B4 := B4.chs ex
      replace KE := KE.chs ex
      replace B5 := D; clear D
      replace B5 := B5.congr (cs' := placeV A17 n17 c17 t17 e17) rfl
      refine wl_nil ?_
      refine wq_then_norm (hK28 ?_)
      refine wc_seq ?_; intro K29 hK29
      refine wc_seq ?_; intro K30 hK30
      refine wc_region ?_
      refine wl_y (y_loadw rfl Try.underlying134 rfl (by kernel_rfl) B5) rfl ?_
      refine wl_call Try.func121 rfl rfl rfl (plend_any _ P) rfl ?_
      rintro e w18 ⟨rfl, ex⟩
      refine ⟨_, rfl, ?_⟩
      replace F := F.ext ex
      replace KA := KA.ext ex
      replace B2 := B2.ext ex
      replace B4 := B4.ext ex
      replace B5 := B5.ext ex
      replace KE := KE.ext ex
      skip
      refine wl_y (y_assign rfl) rfl ?_
      refine wl_nil ?_
      refine wq_then_norm (hK30 ?_)
      refine wc_seq ?_; intro K31 hK31
      refine wc_region ?_
      replace B4 := B4.congr (cs' := twoV hd h17) rfl
      have q9 := F.size
      refine wl_y (y_move rfl) rfl ?_
      refine wl_y (y_neq rfl rfl) rfl ?_
      refine wl_nil ?_
      refine wq_then_norm (hK31 ?_)
      refine wc_dec rfl (fun hc4 => ?_) (fun hc4 => ?_)
      · skip
        refine wc_seq ?_; intro K32 hK32
        refine wc_region ?_
        refine wl_y (y_build rfl (cells := zWelV) (by kernel_rfl)) rfl ?_
        refine wl_y (y_move rfl) rfl ?_
        refine wl_ef (ef_storeP (o := 0) rfl rfl (by kernel_rfl) B2 (Nat.le_of_ble_eq_true rfl) (all_ones rfl)) rfl ?_
        rintro _ wS20_2 ⟨rfl, D, cg⟩
        have ex := Chs.one cg
        clear cg
        replace F := F.chs ex
        replace KA := KA.chs ex
        replace B4 := B4.chs ex
        replace B5 := B5.chs ex
        replace KE := KE.chs ex
        replace B2 := D; clear D
        replace B2 := B2.congr (cs' := zWelV) rfl
        refine wl_y (y_assign rfl) rfl ?_
        refine wl_nil ?_
        refine wq_then_norm (hK32 ?_)
        refine wc_ret ?_
        refine wq_then_ret ?_
        refine hret rfl rfl B2 rfl ?_
        rw [hO]; unfold wholeX; rw [if_pos (show endX (vecX l.2).2 ≠ 0 by omega)]; exact ⟨_, rfl, WelR.zero _ _ _ _ _, ((((F.drop (by omega)).drop (by omega)).drop (by omega)).drop (by omega)) |>.toExt (by simp)⟩
      · skip
        refine wc_skip ?_
        refine wq_then_norm (hK29 ?_)
        refine wc_seq ?_; intro K33 hK33
        refine wc_seq ?_; intro K34 hK34
        refine wc_region ?_
        refine wl_y (y_loadw rfl Try.underlying80 rfl (by kernel_rfl) B4) rfl ?_
        have WS : ∀ w2, ElsF N3 (fun _ cs x => GstS A n b cs x) 3 w2 hd.A hd.n zs → WelR w.heap.size A n b w2 (twoV hd h17) ⟨l.1, (vecX l.2).1⟩ := fun w2 h => ⟨_, _, rfl, by rw [hl1]; exact h.mono (by omega) (fun _ _ h => h), Sh17⟩
        refine wl_call Try.func55 rfl rfl rfl (rWelcome_any _ ((WS _ KE.out).at KA.out) (by show l.1.length ≤ 1000000; rw [hl1]; have h1 : zs.length + slen st ≤ v.1.length := hct; omega)) rfl ?_
        rintro e w21 ⟨rfl, ex⟩
        refine ⟨_, rfl, ?_⟩
        replace F := F.ext ex
        replace KA := KA.ext ex
        replace B2 := B2.ext ex
        replace B4 := B4.ext ex
        replace B5 := B5.ext ex
        replace KE := KE.ext ex
        skip
        refine wl_y (y_not rfl) rfl ?_
        refine wl_nil ?_
        refine wq_then_norm (hK34 ?_)
        refine wc_cond rfl (fun hc5 => ?_) (fun hc5 => ?_)
        · skip
          refine wc_seq ?_; intro K35 hK35
          refine wc_region ?_
          refine wl_y (y_build rfl (cells := zWelV) (by kernel_rfl)) rfl ?_
          refine wl_ef (ef_storeP (o := 0) rfl rfl (by kernel_rfl) B2 (Nat.le_of_ble_eq_true rfl) (all_ones rfl)) rfl ?_
          rintro _ wS22_1 ⟨rfl, D, cg⟩
          have ex := Chs.one cg
          clear cg
          replace F := F.chs ex
          replace KA := KA.chs ex
          replace B4 := B4.chs ex
          replace B5 := B5.chs ex
          replace KE := KE.chs ex
          replace B2 := D; clear D
          replace B2 := B2.congr (cs' := zWelV) rfl
          refine wl_y (y_assign rfl) rfl ?_
          refine wl_nil ?_
          refine wq_then_norm (hK35 ?_)
          refine wc_ret ?_
          refine wq_then_ret ?_
          refine hret rfl rfl B2 rfl ?_
          rw [hO]; unfold wholeX; rw [if_neg (show ¬ endX (vecX l.2).2 ≠ 0 by omega), if_neg (by simpa using hc5)]; exact ⟨_, rfl, WelR.zero _ _ _ _ _, ((((F.drop (by omega)).drop (by omega)).drop (by omega)).drop (by omega)) |>.toExt (by simp)⟩
        · skip
          refine wc_skip ?_
          refine wq_then_norm (hK33 ?_)
          refine wc_seq ?_; intro K36 hK36
          refine wc_region ?_
          refine wl_y (y_loadw rfl Try.underlying80 rfl (by kernel_rfl) B4) rfl ?_
          refine wl_ef (ef_storeP (o := 0) rfl rfl (by kernel_rfl) B2 (Nat.le_of_ble_eq_true rfl) (all_ones rfl)) rfl ?_
          rintro _ wS23_1 ⟨rfl, D, cg⟩
          have ex := Chs.one cg
          clear cg
          replace F := F.chs ex
          replace KA := KA.chs ex
          replace B4 := B4.chs ex
          replace B5 := B5.chs ex
          replace KE := KE.chs ex
          replace B2 := D; clear D
          replace B2 := B2.congr (cs' := twoV hd h17) rfl
          refine wl_y (y_assign rfl) rfl ?_
          refine wl_nil ?_
          refine wq_then_norm (hK36 ?_)
          refine wc_ret ?_
          refine hret rfl rfl B2 rfl ?_
          rw [hO]; unfold wholeX; rw [if_neg (show ¬ endX (vecX l.2).2 ≠ 0 by omega), if_pos (by simpa using hc5)]; exact ⟨_, rfl, WS _ KE.out, ((((F.drop (by omega)).drop (by omega)).drop (by omega)).drop (by omega)) |>.toExt (by simp)⟩
theorem ltold_eq {ok : Prop} [Decidable ok] {A B : Option Addr} {k c m d z : Nat} {xs ys : List UInt8} {v : Bool} (w : World) (hv : v = decide ok) (T : Told w ok xs A k z) (HB : Bs w B m ys) (h : ok → ys = xs) (hk : ys.length ≤ 100000000) :
    Calls Try.prog 15 #[.slice A k c, .int .u8 ((z : Nat) : Int), .bool v, .slice B m d] w fun e w' => e = .returned (.bool true) ∧ Ext w w' := by
  subst hv; exact ltold_any w T HB h hk
theorem secOf_le (b : List UInt8) : (secOf b).1.1.length ≤ b.length ∧ (secOf b).1.2.2.length ≤ b.length := by
  have h1 := vecX_le (.ok b)
  have h2 := flag_le (vecX (.ok b)).2
  have h3 := vecX_le (flagX (vecX (.ok b)).2).2
  have h0 : slen (.ok b) = b.length := rfl
  have e : (secX (.ok b)).1 = ((vecX (.ok b)).1, (flagX (vecX (.ok b)).2).1, (if (flagX (vecX (.ok b)).2).1 then vecX (flagX (vecX (.ok b)).2).2 else ([], (flagX (vecX (.ok b)).2).2)).1) := rfl
  unfold secOf wholeX
  split
  · exact ⟨Nat.zero_le _, Nat.zero_le _⟩
  · split
    · rw [e]
      refine ⟨by show (vecX (.ok b)).1.length ≤ _; omega, ?_⟩
      dsimp only
      split
      · omega
      · exact Nat.zero_le _
    · exact ⟨Nat.zero_le _, Nat.zero_le _⟩
theorem wel0_fit : Wel.zero.Fit := ⟨Nat.zero_le _, (fun x hx => by cases hx), Nat.zero_le _⟩
theorem welOf_fit {b : List UInt8} (h : b.length ≤ 10000) : (welOf b).1.Fit := by
  unfold welOf wholeX
  split
  · exact wel0_fit
  · split
    · exact wel_fit h
    · exact wel0_fit
theorem msgWelcomes_law (cw : Array Value) (x : Wel) (Aj : Option Addr) (nj cj : Nat) (j : List UInt8) (Ay : Option Addr) (ny cy : Nat) (y : List UInt8) (Ab : Option Addr) (n c : Nat) (b : List UInt8) (w : World) (HW : WelAt w cw x) (HJ : Bs w Aj nj j) (_hj : nj ≤ maxLen) (HY : Bs w Ay ny y) (_hy : ny ≤ maxLen) (HB : Bs w Ab n b) (_hn : n ≤ maxLen) (hc : n ≤ c) :
    Calls Try.prog 8 #[.agg cw, .slice Aj nj cj, .slice Ay ny cy, .slice Ab n c] w fun e w' => e = .returned (.bool true) ∧ Below w.heap.size w w' := by
  have KW := HW
  have hbl := HB.1; have hjl := HJ.1; have hyl := HY.1
  obtain ⟨k0, k1, rfl, _⟩ := HW
  have E := Ext.refl w
  refine vc_enter1 129 Try.func8 rfl rfl rfl rfl ?_
  intro Q hret
  refine wc_seq ?_; intro K1 hK1
  refine wc_region ?_
  refine wl_ef (ef_box rfl rfl) rfl ?_
  rintro _ wB4 ⟨gB4, rfl, B4, hgB4, ex⟩
  have lB4 := B4.lt; have zB4 := ex.size
  replace E := E.ext ex
  refine wl_y (y_assign rfl) rfl ?_
  refine wl_nil ?_
  refine wq_then_norm (hK1 ?_)
  refine wc_seq ?_; intro K2 hK2
  refine wc_seq ?_; intro K3 hK3
  refine wc_region ?_
  refine wl_call Try.func10 rfl rfl rfl (alive20_any _) rfl ?_
  rintro e w1 ⟨rfl, ex⟩
  refine ⟨_, rfl, ?_⟩
  replace E := E.ext ex
  replace B4 := B4.ext ex
  refine wl_y (y_not rfl) rfl ?_
  refine wl_nil ?_
  refine wq_then_norm (hK3 ?_)
  refine wc_false rfl rfl ?_
  refine wc_skip ?_
  refine wq_then_norm (hK2 ?_)
  refine wc_seq ?_; intro K4 hK4
  refine wc_seq ?_; intro K5 hK5
  refine wc_region ?_
  refine wl_y (y_loadx (o := 0) (s := 2) rfl Try.underlying80 rfl (by kernel_rfl) B4 rfl) rfl ?_
  refine wl_call Try.func52 rfl rfl rfl (smallWel_any _ (KW.ext E)) rfl ?_
  rintro e w2 ⟨rfl, ex⟩
  refine ⟨_, rfl, ?_⟩
  replace E := E.ext ex
  replace B4 := B4.ext ex
  skip
  refine wl_y (y_not rfl) rfl ?_
  refine wl_yaskb (y_move rfl) rfl (fun q0 => ?_) (fun q0 => ?_)
  · skip
    refine wl_gno 28 rfl rfl rfl rfl ?_
    refine wl_gno 28 rfl rfl rfl rfl ?_
    refine wl_gno 28 rfl rfl rfl rfl ?_
    refine wl_y (y_pickt rfl rfl) rfl ?_
    refine wl_y (y_move rfl) rfl ?_
    refine wl_gno 33 rfl rfl rfl rfl ?_
    refine wl_gno 33 rfl rfl rfl rfl ?_
    refine wl_gno 33 rfl rfl rfl rfl ?_
    refine wl_y (y_pickt rfl rfl) rfl ?_
    refine wl_y (y_move rfl) rfl ?_
    refine wl_gno 38 rfl rfl rfl rfl ?_
    refine wl_gno 38 rfl rfl rfl rfl ?_
    refine wl_gno 38 rfl rfl rfl rfl ?_
    refine wl_y (y_pickt rfl rfl) rfl ?_
    refine wl_nil ?_
    refine wq_then_norm (hK5 ?_)
    refine wc_true rfl rfl ?_
    refine wc_seq ?_; intro K6 hK6
    refine wc_region ?_
    refine wl_y (y_assign rfl) rfl ?_
    refine wl_nil ?_
    refine wq_then_norm (hK6 ?_)
    refine wc_ret ?_
    refine wq_then_ret ?_
    refine hret rfl ?_
    exact ⟨rfl, E⟩
  · skip
    refine wl_gy 28 rfl rfl (y_move rfl) rfl ?_
    refine wl_gy 28 rfl rfl (y_len_slice rfl Try.underlying22) rfl ?_
    refine wl_gyask 28 rfl rfl (y_gtr rfl rfl) rfl (fun q1 => ?_) (fun q1 => ?_)
    · skip
      refine wl_y (y_pickf rfl rfl) rfl ?_
      refine wl_y (y_move rfl) rfl ?_
      refine wl_gno 33 rfl rfl rfl rfl ?_
      refine wl_gno 33 rfl rfl rfl rfl ?_
      refine wl_gno 33 rfl rfl rfl rfl ?_
      refine wl_y (y_pickt rfl rfl) rfl ?_
      refine wl_y (y_move rfl) rfl ?_
      refine wl_gno 38 rfl rfl rfl rfl ?_
      refine wl_gno 38 rfl rfl rfl rfl ?_
      refine wl_gno 38 rfl rfl rfl rfl ?_
      refine wl_y (y_pickt rfl rfl) rfl ?_
      refine wl_nil ?_
      refine wq_then_norm (hK5 ?_)
      refine wc_true rfl rfl ?_
      refine wc_seq ?_; intro K7 hK7
      refine wc_region ?_
      refine wl_y (y_assign rfl) rfl ?_
      refine wl_nil ?_
      refine wq_then_norm (hK7 ?_)
      refine wc_ret ?_
      refine wq_then_ret ?_
      refine hret rfl ?_
      exact ⟨rfl, E⟩
    · skip
      refine wl_y (y_pickf rfl rfl) rfl ?_
      refine wl_y (y_move rfl) rfl ?_
      refine wl_gy 33 rfl rfl (y_move rfl) rfl ?_
      refine wl_gy 33 rfl rfl (y_len_slice rfl Try.underlying22) rfl ?_
      refine wl_gyask 33 rfl rfl (y_gtr rfl rfl) rfl (fun q2 => ?_) (fun q2 => ?_)
      · skip
        refine wl_y (y_pickf rfl rfl) rfl ?_
        refine wl_y (y_move rfl) rfl ?_
        refine wl_gno 38 rfl rfl rfl rfl ?_
        refine wl_gno 38 rfl rfl rfl rfl ?_
        refine wl_gno 38 rfl rfl rfl rfl ?_
        refine wl_y (y_pickt rfl rfl) rfl ?_
        refine wl_nil ?_
        refine wq_then_norm (hK5 ?_)
        refine wc_true rfl rfl ?_
        refine wc_seq ?_; intro K8 hK8
        refine wc_region ?_
        refine wl_y (y_assign rfl) rfl ?_
        refine wl_nil ?_
        refine wq_then_norm (hK8 ?_)
        refine wc_ret ?_
        refine wq_then_ret ?_
        refine hret rfl ?_
        exact ⟨rfl, E⟩
      · skip
        refine wl_y (y_pickf rfl rfl) rfl ?_
        refine wl_y (y_move rfl) rfl ?_
        refine wl_gy 38 rfl rfl (y_move rfl) rfl ?_
        refine wl_gy 38 rfl rfl (y_len_slice rfl Try.underlying22) rfl ?_
        refine wl_gy 38 rfl rfl (y_gtr rfl rfl) rfl ?_
        refine wl_y (y_pickf rfl rfl) rfl ?_
        refine wl_nil ?_
        refine wq_then_norm (hK5 ?_)
        refine wc_dec rfl (fun hc2 => ?_) (fun hc2 => ?_)
        · skip
          refine wc_seq ?_; intro K9 hK9
          refine wc_region ?_
          refine wl_y (y_assign rfl) rfl ?_
          refine wl_nil ?_
          refine wq_then_norm (hK9 ?_)
          refine wc_ret ?_
          refine wq_then_ret ?_
          refine hret rfl ?_
          exact ⟨rfl, E⟩
        · skip
          refine wc_skip ?_
          refine wq_then_norm (hK4 ?_)
          refine wc_seq ?_; intro K10 hK10
          have sw : x.Small := by simpa using q0
          have hfb := welOf_fit (b := b) (by omega)
          refine wc_region ?_
          refine wl_y (y_loadx (o := 0) (s := 2) rfl Try.underlying80 rfl (by kernel_rfl) B4 rfl) rfl ?_
          refine wl_call Try.func53 rfl rfl rfl (WelcomeBytes_any _ (KW.ext E) sw.fit) rfl ?_
          rintro e w3 ⟨A5, n5, c5, z5, rfl, T5, kk5, ex⟩
          refine ⟨_, rfl, ?_⟩
          replace E := E.ext ex
          replace B4 := B4.ext ex
          skip
          refine wl_y (y_move rfl) rfl ?_
          refine wl_y (y_extract rfl rfl) rfl ?_
          refine wl_y (y_extract rfl rfl) rfl ?_
          refine wl_y (y_assign rfl) rfl ?_
          refine wl_y (y_assign rfl) rfl ?_
          refine wl_nil ?_
          refine wq_then_norm (hK10 ?_)
          refine wc_seq ?_; intro K11 hK11
          refine wc_region ?_
          refine wl_y (y_move rfl) rfl ?_
          refine wl_y (y_move rfl) rfl ?_
          refine wl_call Try.func54 rfl rfl rfl (SecretsBytes_any _ (Bs.ext HJ E) (Bs.ext HY E)) rfl ?_
          rintro e w4 ⟨A6, n6, c6, z6, rfl, T6, kk6, ex⟩
          refine ⟨_, rfl, ?_⟩
          replace E := E.ext ex
          replace B4 := B4.ext ex
          replace T5 := T5.ext ex
          skip
          refine wl_y (y_move rfl) rfl ?_
          refine wl_y (y_extract rfl rfl) rfl ?_
          refine wl_y (y_extract rfl rfl) rfl ?_
          refine wl_y (y_assign rfl) rfl ?_
          refine wl_y (y_assign rfl) rfl ?_
          refine wl_nil ?_
          refine wq_then_norm (hK11 ?_)
          refine wc_seq ?_; intro K12 hK12
          refine wc_seq ?_; intro K13 hK13
          refine wc_draw (by kernel_rfl) 8 rfl ?_; intro wd7 ex hd7
          replace E := E.ext ex
          replace B4 := B4.ext ex
          replace T5 := T5.ext ex
          replace T6 := T6.ext ex
          refine wm_y 0 rfl (by kernel_rfl) (y_move rfl) rfl ?_
          refine wm_y 1 rfl (by kernel_rfl) (y_move rfl) rfl ?_
          refine wm_y 2 rfl (by kernel_rfl) (y_loadx (o := 0) (s := 2) rfl Try.underlying80 rfl (by kernel_rfl) B4 rfl) rfl ?_
          refine wm_y 4 rfl (by kernel_rfl) (y_loadx (o := 0) (s := 2) rfl Try.underlying80 rfl (by kernel_rfl) B4 rfl) rfl ?_
          refine wm_one 3 (by kernel_rfl) ?_; refine om_call rfl Try.func55 rfl rfl rfl (rWelcome_any _ (KW.ext E) (by have := sw.fit.1; omega)) rfl ?_
          rintro e w5 ⟨rfl, ex⟩
          refine ⟨_, rfl, .inr ex, ?_⟩
          replace E := E.ext ex
          replace B4 := B4.ext ex
          replace T5 := T5.ext ex
          replace T6 := T6.ext ex
          skip
          refine wm_one 5 (by kernel_rfl) ?_; refine om_call rfl Try.func56 rfl rfl rfl (rWelBytes_any _ (KW.ext E) sw) rfl ?_
          rintro e w6 ⟨A7, n7, c7, rfl, R7, hk7, ex⟩
          refine ⟨_, rfl, .inr ex, ?_⟩
          replace E := E.ext ex
          replace B4 := B4.ext ex
          replace T5 := T5.ext ex
          replace T6 := T6.ext ex
          have H7 := R7.bs; have m7 := H7.1
          refine wm_one 6 (by kernel_rfl) ?_; refine om_call rfl Try.func15 rfl rfl rfl (ltold_any _ T5 H7 (fun _ => rfl) (by omega)) rfl ?_
          rintro e w7 ⟨rfl, ex⟩
          refine ⟨_, rfl, .inr ex, ?_⟩
          replace E := E.ext ex
          replace B4 := B4.ext ex
          replace T5 := T5.ext ex
          replace T6 := T6.ext ex
          replace H7 := H7.ext ex
          refine wm_y 7 rfl (by kernel_rfl) (y_not rfl) rfl ?_
          refine wm_done (by kernel_rfl) ?_
          refine wq_nop ?_
          refine wq_then_norm (hK13 ?_)
          refine wc_false rfl rfl ?_
          refine wc_skip ?_
          refine wq_then_norm (hK12 ?_)
          refine wc_seq ?_; intro K14 hK14
          refine wc_seq ?_; intro K15 hK15
          refine wc_region ?_
          refine wl_y (y_move rfl) rfl ?_
          refine wl_y (y_move rfl) rfl ?_
          refine wl_y (y_move rfl) rfl ?_
          refine wl_y (y_len_slice rfl Try.underlying22) rfl ?_
          refine wl_yask (y_eql rfl rfl) rfl (fun s1 => ?_) (fun s1 => ?_)
          · skip
            refine wl_y (y_move rfl) rfl ?_
            refine wl_gy 67 rfl rfl (y_move rfl) rfl ?_
            refine wl_gy 67 rfl rfl (y_len_slice rfl Try.underlying22) rfl ?_
            refine wl_gyask 67 rfl rfl (y_eql rfl rfl) rfl (fun s2 => ?_) (fun s2 => ?_)
            · skip
              refine wl_gy 67 rfl rfl (y_move rfl) rfl ?_
              refine wl_gno 71 rfl rfl rfl rfl ?_
              refine wl_gno 71 rfl rfl rfl rfl ?_
              refine wl_gno 71 rfl rfl rfl rfl ?_
              refine wl_gy 67 rfl rfl (y_pickt rfl rfl) rfl ?_
              refine wl_y (y_pickt rfl rfl) rfl ?_
              refine wl_y (y_move rfl) rfl ?_
              refine wl_y (y_move rfl) rfl ?_
              refine wl_call Try.func57 rfl rfl rfl (rSecretsBytes_any _ (Bs.ext HJ E) (Bs.ext HY E) (by omega) (by omega)) rfl ?_
              rintro e w8 ⟨A8, n8, c8, rfl, R8, hk8, ex⟩
              refine ⟨_, rfl, ?_⟩
              replace E := E.ext ex
              replace B4 := B4.ext ex
              replace T5 := T5.ext ex
              replace T6 := T6.ext ex
              replace H7 := H7.ext ex
              have H8 := R8.bs; have m8 := H8.1
              refine wl_call Try.func15 rfl rfl rfl (ltold_eq (ok := okSec j y) (v := true) _ (by rw [eq_comm, decide_eq_true_iff]; exact ⟨by omega, .inl (by omega)⟩) T6 H8 (fun _ => rfl) (by omega)) rfl ?_
              rintro e w9 ⟨rfl, ex⟩
              refine ⟨_, rfl, ?_⟩
              replace E := E.ext ex
              replace B4 := B4.ext ex
              replace T5 := T5.ext ex
              replace T6 := T6.ext ex
              replace H7 := H7.ext ex
              replace H8 := H8.ext ex
              refine wl_y (y_not rfl) rfl ?_
              refine wl_nil ?_
              refine wq_then_norm (hK15 ?_)
              refine wc_false rfl rfl ?_
              refine wc_skip ?_
              refine wq_then_norm (hK14 ?_)
              refine wc_seq ?_; intro K16 hK16
              refine wc_region ?_
              refine wl_y (y_move rfl) rfl ?_
              refine wl_call Try.func58 rfl rfl rfl (welOf_any _ (HB.ext E) hc (by omega) (wel_fit (by show b.length ≤ 10000; omega))) rfl ?_
              rintro e w10 ⟨ds, rfl, HN, h256, ex⟩
              refine ⟨_, rfl, ?_⟩
              replace E := E.ext ex
              replace B4 := B4.ext ex
              replace T5 := T5.ext ex
              replace T6 := T6.ext ex
              replace H7 := H7.ext ex
              replace H8 := H8.ext ex
              have HN2 := HN.at; obtain ⟨k0', k1', rfl, _⟩ := HN
              refine wl_y (y_move rfl) rfl ?_
              refine wl_y (y_extract rfl rfl) rfl ?_
              refine wl_y (y_extract rfl rfl) rfl ?_
              refine wl_ef (ef_alloc (Z := #[.slice none 0 0, .slice none 0 0]) (by kernel_rfl)) rfl ?_
              rintro _ wA13 ⟨gB13, rfl, D13, hgB13, exA⟩
              refine wl_ef (ef_storeP (o := 0) rfl rfl (by kernel_rfl) D13 (Nat.le_of_ble_eq_true rfl) (all_ones rfl)) rfl ?_
              rintro _ wB13 ⟨rfl, B13, cg⟩
              have ex := exA.chg cg hgB13; clear cg exA D13
              have lB13 := B13.lt; have zB13 := ex.size
              replace E := E.ext ex
              replace B4 := B4.ext ex
              replace T5 := T5.ext ex
              replace T6 := T6.ext ex
              replace H7 := H7.ext ex
              replace H8 := H8.ext ex
              replace HN2 := HN2.ext ex
              refine wl_y (y_assign rfl) rfl ?_
              refine wl_nil ?_
              refine wq_then_norm (hK16 ?_)
              refine wc_seq ?_; intro K17 hK17
              refine wc_region ?_
              refine wl_y (y_move rfl) rfl ?_
              refine wl_call Try.func59 rfl rfl rfl (rWelcomeOf_any _ (HB.ext E) hc (by omega)) rfl ?_
              rintro e w11 ⟨es, rfl, HR, ex⟩
              refine ⟨_, rfl, ?_⟩
              replace E := E.ext ex
              replace B4 := B4.ext ex
              replace T5 := T5.ext ex
              replace T6 := T6.ext ex
              replace H7 := H7.ext ex
              replace H8 := H8.ext ex
              replace HN2 := HN2.ext ex
              replace B13 := B13.ext ex
              have HR2 := HR.at (HB.ext E); obtain ⟨k0'', k1'', rfl, _⟩ := HR
              refine wl_y (y_move rfl) rfl ?_
              refine wl_y (y_extract rfl rfl) rfl ?_
              refine wl_y (y_extract rfl rfl) rfl ?_
              refine wl_ef (ef_alloc (Z := #[.slice none 0 0, .slice none 0 0]) (by kernel_rfl)) rfl ?_
              rintro _ wA15 ⟨gB15, rfl, D15, hgB15, exA⟩
              refine wl_ef (ef_storeP (o := 0) rfl rfl (by kernel_rfl) D15 (Nat.le_of_ble_eq_true rfl) (all_ones rfl)) rfl ?_
              rintro _ wB15 ⟨rfl, B15, cg⟩
              have ex := exA.chg cg hgB15; clear cg exA D15
              have lB15 := B15.lt; have zB15 := ex.size
              replace E := E.ext ex
              replace B4 := B4.ext ex
              replace T5 := T5.ext ex
              replace T6 := T6.ext ex
              replace H7 := H7.ext ex
              replace H8 := H8.ext ex
              replace HN2 := HN2.ext ex
              replace B13 := B13.ext ex
              replace HR2 := HR2.ext ex
              refine wl_y (y_assign rfl) rfl ?_
              refine wl_nil ?_
              refine wq_then_norm (hK17 ?_)
              refine wc_seq ?_; intro K18 hK18
              refine wc_region ?_
              refine wl_y (y_move rfl) rfl ?_
              refine wl_call Try.func60 rfl rfl rfl (SecretsOf_any _ (HB.ext E) hc (by omega)) rfl ?_
              rintro e w12 ⟨h13, h13', rfl, S13, S13q, hs256, ex⟩
              refine ⟨_, rfl, ?_⟩
              replace E := E.ext ex
              replace B4 := B4.ext ex
              replace T5 := T5.ext ex
              replace T6 := T6.ext ex
              replace H7 := H7.ext ex
              replace H8 := H8.ext ex
              replace HN2 := HN2.ext ex
              replace B13 := B13.ext ex
              replace HR2 := HR2.ext ex
              replace B15 := B15.ext ex
              skip
              refine wl_y (y_move rfl) rfl ?_
              refine wl_y (y_extract rfl rfl) rfl ?_
              refine wl_y (y_extract rfl rfl) rfl ?_
              refine wl_y (y_extract rfl rfl) rfl ?_
              refine wl_y (y_assign rfl) rfl ?_
              refine wl_y (y_assign rfl) rfl ?_
              refine wl_y (y_assign rfl) rfl ?_
              refine wl_nil ?_
              refine wq_then_norm (hK18 ?_)
              refine wc_seq ?_; intro K19 hK19
              refine wc_region ?_
              refine wl_y (y_move rfl) rfl ?_
              refine wl_call Try.func61 rfl rfl rfl (rSecretsOf_any _ (HB.ext E) hc (by omega)) rfl ?_
              rintro e w13 ⟨h14, h14', rfl, U14, U14', ex⟩
              refine ⟨_, rfl, ?_⟩
              replace E := E.ext ex
              replace B4 := B4.ext ex
              replace T5 := T5.ext ex
              replace T6 := T6.ext ex
              replace H7 := H7.ext ex
              replace H8 := H8.ext ex
              replace HN2 := HN2.ext ex
              replace B13 := B13.ext ex
              replace HR2 := HR2.ext ex
              replace B15 := B15.ext ex
              replace S13 := S13.ext ex
              replace S13q := S13q.ext ex
              skip
              refine wl_y (y_move rfl) rfl ?_
              refine wl_y (y_extract rfl rfl) rfl ?_
              refine wl_y (y_extract rfl rfl) rfl ?_
              refine wl_y (y_extract rfl rfl) rfl ?_
              refine wl_y (y_assign rfl) rfl ?_
              refine wl_y (y_assign rfl) rfl ?_
              refine wl_y (y_assign rfl) rfl ?_
              refine wl_nil ?_
              refine wq_then_norm (hK19 ?_)
              refine wc_seq ?_; intro K20 hK20
              refine wc_region ?_
              refine wl_y (y_move rfl) rfl ?_
              refine wl_y (y_conv rfl Try.underlying38 Try.underlying3 (i64_ok (by omega) (by omega))) rfl ?_
              refine wl_y (y_move rfl) rfl ?_
              refine wl_y (Y.as (y_eql rfl rfl) (congrArg Value.bool (decide_eq_true rfl))) rfl ?_
              refine wl_y (y_move rfl) rfl ?_
              refine wl_gy 108 rfl rfl (y_loadx (o := 0) (s := 2) rfl Try.underlying80 rfl (by kernel_rfl) B13 rfl) rfl ?_
              refine wl_gy 108 rfl rfl (y_loadx (o := 0) (s := 2) rfl Try.underlying80 rfl (by kernel_rfl) B15 rfl) rfl ?_
              refine wl_gcall 108 rfl rfl Try.func62 rfl rfl rfl (sameWel_any _ HN2 HR2 hfb hfb) rfl ?_
              rintro e w14 ⟨rfl, ex⟩
              refine ⟨_, rfl, ?_⟩
              replace E := E.ext ex
              replace B4 := B4.ext ex
              replace T5 := T5.ext ex
              replace T6 := T6.ext ex
              replace H7 := H7.ext ex
              replace H8 := H8.ext ex
              replace HN2 := HN2.ext ex
              replace B13 := B13.ext ex
              replace HR2 := HR2.ext ex
              replace B15 := B15.ext ex
              replace S13 := S13.ext ex
              replace S13q := S13q.ext ex
              rw [decide_eq_true rfl]
              refine wl_y (y_pickt rfl rfl) rfl ?_
              refine wl_y (y_move rfl) rfl ?_
              refine wl_gy 113 rfl rfl (y_move rfl) rfl ?_
              refine wl_gy 113 rfl rfl (y_conv rfl Try.underlying38 Try.underlying3 (i64_ok (by omega) (by omega))) rfl ?_
              refine wl_gy 113 rfl rfl (y_move rfl) rfl ?_
              refine wl_gy 113 rfl rfl (Y.as (y_eql rfl rfl) (congrArg Value.bool (decide_eq_true rfl))) rfl ?_
              refine wl_y (y_pickt rfl rfl) rfl ?_
              refine wl_y (y_move rfl) rfl ?_
              refine wl_gy 119 rfl rfl (y_move rfl) rfl ?_
              refine wl_gy 119 rfl rfl (y_move rfl) rfl ?_
              obtain ⟨b1, b2⟩ := secOf_le b
              have a1 := S13.1; have a2 := (U14 _ (HB.ext E)).1; have a3 := S13q.1; have a4 := (U14' _ (HB.ext E)).1
              refine wl_gcall 119 rfl rfl Try.func26 rfl rfl rfl (sm_any S13 (U14 _ (HB.ext E)) (by omega) (by omega)) rfl ?_
              rintro e w15 ⟨rfl, ex⟩
              refine ⟨_, rfl, ?_⟩
              replace E := E.ext ex
              replace B4 := B4.ext ex
              replace T5 := T5.ext ex
              replace T6 := T6.ext ex
              replace H7 := H7.ext ex
              replace H8 := H8.ext ex
              replace HN2 := HN2.ext ex
              replace B13 := B13.ext ex
              replace HR2 := HR2.ext ex
              replace B15 := B15.ext ex
              replace S13 := S13.ext ex
              replace S13q := S13q.ext ex
              rw [decide_eq_true rfl]
              refine wl_y (y_pickt rfl rfl) rfl ?_
              refine wl_y (y_move rfl) rfl ?_
              refine wl_gy 124 rfl rfl (y_move rfl) rfl ?_
              refine wl_gy 124 rfl rfl (y_move rfl) rfl ?_
              refine wl_gcall 124 rfl rfl Try.func26 rfl rfl rfl (sm_any S13q (U14' _ (HB.ext E)) (by omega) (by omega)) rfl ?_
              rintro e w16 ⟨rfl, ex⟩
              refine ⟨_, rfl, ?_⟩
              replace E := E.ext ex
              replace B4 := B4.ext ex
              replace T5 := T5.ext ex
              replace T6 := T6.ext ex
              replace H7 := H7.ext ex
              replace H8 := H8.ext ex
              replace HN2 := HN2.ext ex
              replace B13 := B13.ext ex
              replace HR2 := HR2.ext ex
              replace B15 := B15.ext ex
              replace S13 := S13.ext ex
              replace S13q := S13q.ext ex
              rw [decide_eq_true rfl]
              refine wl_y (y_pickt rfl rfl) rfl ?_
              refine wl_y (y_assign rfl) rfl ?_
              refine wl_nil ?_
              refine wq_then_norm (hK20 ?_)
              refine wc_ret ?_
              refine hret rfl ?_
              exact ⟨rfl, E⟩
            · skip
              refine wl_gy 67 rfl rfl (y_move rfl) rfl ?_
              refine wl_gy 71 rfl rfl (y_move rfl) rfl ?_
              refine wl_gy 71 rfl rfl (y_len_slice rfl Try.underlying22) rfl ?_
              refine wl_gy 71 rfl rfl (y_eql rfl rfl) rfl ?_
              refine wl_gy 67 rfl rfl (y_pickf rfl rfl) rfl ?_
              refine wl_y (y_pickt rfl rfl) rfl ?_
              refine wl_y (y_move rfl) rfl ?_
              refine wl_y (y_move rfl) rfl ?_
              refine wl_call Try.func57 rfl rfl rfl (rSecretsBytes_any _ (Bs.ext HJ E) (Bs.ext HY E) (by omega) (by omega)) rfl ?_
              rintro e w8 ⟨A8, n8, c8, rfl, R8, hk8, ex⟩
              refine ⟨_, rfl, ?_⟩
              replace E := E.ext ex
              replace B4 := B4.ext ex
              replace T5 := T5.ext ex
              replace T6 := T6.ext ex
              replace H7 := H7.ext ex
              have H8 := R8.bs; have m8 := H8.1
              refine wl_call Try.func15 rfl rfl rfl (ltold_eq (ok := okSec j y) _ (decide_eq_decide.2 ⟨fun h => ⟨by omega, .inr (by omega)⟩, fun h => by have := h.2; omega⟩) T6 H8 (fun _ => rfl) (by omega)) rfl ?_
              rintro e w9 ⟨rfl, ex⟩
              refine ⟨_, rfl, ?_⟩
              replace E := E.ext ex
              replace B4 := B4.ext ex
              replace T5 := T5.ext ex
              replace T6 := T6.ext ex
              replace H7 := H7.ext ex
              replace H8 := H8.ext ex
              refine wl_y (y_not rfl) rfl ?_
              refine wl_nil ?_
              refine wq_then_norm (hK15 ?_)
              refine wc_false rfl rfl ?_
              refine wc_skip ?_
              refine wq_then_norm (hK14 ?_)
              refine wc_seq ?_; intro K21 hK21
              refine wc_region ?_
              refine wl_y (y_move rfl) rfl ?_
              refine wl_call Try.func58 rfl rfl rfl (welOf_any _ (HB.ext E) hc (by omega) (wel_fit (by show b.length ≤ 10000; omega))) rfl ?_
              rintro e w10 ⟨ds, rfl, HN, h256, ex⟩
              refine ⟨_, rfl, ?_⟩
              replace E := E.ext ex
              replace B4 := B4.ext ex
              replace T5 := T5.ext ex
              replace T6 := T6.ext ex
              replace H7 := H7.ext ex
              replace H8 := H8.ext ex
              have HN2 := HN.at; obtain ⟨k0', k1', rfl, _⟩ := HN
              refine wl_y (y_move rfl) rfl ?_
              refine wl_y (y_extract rfl rfl) rfl ?_
              refine wl_y (y_extract rfl rfl) rfl ?_
              refine wl_ef (ef_alloc (Z := #[.slice none 0 0, .slice none 0 0]) (by kernel_rfl)) rfl ?_
              rintro _ wA13 ⟨gB13, rfl, D13, hgB13, exA⟩
              refine wl_ef (ef_storeP (o := 0) rfl rfl (by kernel_rfl) D13 (Nat.le_of_ble_eq_true rfl) (all_ones rfl)) rfl ?_
              rintro _ wB13 ⟨rfl, B13, cg⟩
              have ex := exA.chg cg hgB13; clear cg exA D13
              have lB13 := B13.lt; have zB13 := ex.size
              replace E := E.ext ex
              replace B4 := B4.ext ex
              replace T5 := T5.ext ex
              replace T6 := T6.ext ex
              replace H7 := H7.ext ex
              replace H8 := H8.ext ex
              replace HN2 := HN2.ext ex
              refine wl_y (y_assign rfl) rfl ?_
              refine wl_nil ?_
              refine wq_then_norm (hK21 ?_)
              refine wc_seq ?_; intro K22 hK22
              refine wc_region ?_
              refine wl_y (y_move rfl) rfl ?_
              refine wl_call Try.func59 rfl rfl rfl (rWelcomeOf_any _ (HB.ext E) hc (by omega)) rfl ?_
              rintro e w11 ⟨es, rfl, HR, ex⟩
              refine ⟨_, rfl, ?_⟩
              replace E := E.ext ex
              replace B4 := B4.ext ex
              replace T5 := T5.ext ex
              replace T6 := T6.ext ex
              replace H7 := H7.ext ex
              replace H8 := H8.ext ex
              replace HN2 := HN2.ext ex
              replace B13 := B13.ext ex
              have HR2 := HR.at (HB.ext E); obtain ⟨k0'', k1'', rfl, _⟩ := HR
              refine wl_y (y_move rfl) rfl ?_
              refine wl_y (y_extract rfl rfl) rfl ?_
              refine wl_y (y_extract rfl rfl) rfl ?_
              refine wl_ef (ef_alloc (Z := #[.slice none 0 0, .slice none 0 0]) (by kernel_rfl)) rfl ?_
              rintro _ wA15 ⟨gB15, rfl, D15, hgB15, exA⟩
              refine wl_ef (ef_storeP (o := 0) rfl rfl (by kernel_rfl) D15 (Nat.le_of_ble_eq_true rfl) (all_ones rfl)) rfl ?_
              rintro _ wB15 ⟨rfl, B15, cg⟩
              have ex := exA.chg cg hgB15; clear cg exA D15
              have lB15 := B15.lt; have zB15 := ex.size
              replace E := E.ext ex
              replace B4 := B4.ext ex
              replace T5 := T5.ext ex
              replace T6 := T6.ext ex
              replace H7 := H7.ext ex
              replace H8 := H8.ext ex
              replace HN2 := HN2.ext ex
              replace B13 := B13.ext ex
              replace HR2 := HR2.ext ex
              refine wl_y (y_assign rfl) rfl ?_
              refine wl_nil ?_
              refine wq_then_norm (hK22 ?_)
              refine wc_seq ?_; intro K23 hK23
              refine wc_region ?_
              refine wl_y (y_move rfl) rfl ?_
              refine wl_call Try.func60 rfl rfl rfl (SecretsOf_any _ (HB.ext E) hc (by omega)) rfl ?_
              rintro e w12 ⟨h13, h13', rfl, S13, S13q, hs256, ex⟩
              refine ⟨_, rfl, ?_⟩
              replace E := E.ext ex
              replace B4 := B4.ext ex
              replace T5 := T5.ext ex
              replace T6 := T6.ext ex
              replace H7 := H7.ext ex
              replace H8 := H8.ext ex
              replace HN2 := HN2.ext ex
              replace B13 := B13.ext ex
              replace HR2 := HR2.ext ex
              replace B15 := B15.ext ex
              skip
              refine wl_y (y_move rfl) rfl ?_
              refine wl_y (y_extract rfl rfl) rfl ?_
              refine wl_y (y_extract rfl rfl) rfl ?_
              refine wl_y (y_extract rfl rfl) rfl ?_
              refine wl_y (y_assign rfl) rfl ?_
              refine wl_y (y_assign rfl) rfl ?_
              refine wl_y (y_assign rfl) rfl ?_
              refine wl_nil ?_
              refine wq_then_norm (hK23 ?_)
              refine wc_seq ?_; intro K24 hK24
              refine wc_region ?_
              refine wl_y (y_move rfl) rfl ?_
              refine wl_call Try.func61 rfl rfl rfl (rSecretsOf_any _ (HB.ext E) hc (by omega)) rfl ?_
              rintro e w13 ⟨h14, h14', rfl, U14, U14', ex⟩
              refine ⟨_, rfl, ?_⟩
              replace E := E.ext ex
              replace B4 := B4.ext ex
              replace T5 := T5.ext ex
              replace T6 := T6.ext ex
              replace H7 := H7.ext ex
              replace H8 := H8.ext ex
              replace HN2 := HN2.ext ex
              replace B13 := B13.ext ex
              replace HR2 := HR2.ext ex
              replace B15 := B15.ext ex
              replace S13 := S13.ext ex
              replace S13q := S13q.ext ex
              skip
              refine wl_y (y_move rfl) rfl ?_
              refine wl_y (y_extract rfl rfl) rfl ?_
              refine wl_y (y_extract rfl rfl) rfl ?_
              refine wl_y (y_extract rfl rfl) rfl ?_
              refine wl_y (y_assign rfl) rfl ?_
              refine wl_y (y_assign rfl) rfl ?_
              refine wl_y (y_assign rfl) rfl ?_
              refine wl_nil ?_
              refine wq_then_norm (hK24 ?_)
              refine wc_seq ?_; intro K25 hK25
              refine wc_region ?_
              refine wl_y (y_move rfl) rfl ?_
              refine wl_y (y_conv rfl Try.underlying38 Try.underlying3 (i64_ok (by omega) (by omega))) rfl ?_
              refine wl_y (y_move rfl) rfl ?_
              refine wl_y (Y.as (y_eql rfl rfl) (congrArg Value.bool (decide_eq_true rfl))) rfl ?_
              refine wl_y (y_move rfl) rfl ?_
              refine wl_gy 108 rfl rfl (y_loadx (o := 0) (s := 2) rfl Try.underlying80 rfl (by kernel_rfl) B13 rfl) rfl ?_
              refine wl_gy 108 rfl rfl (y_loadx (o := 0) (s := 2) rfl Try.underlying80 rfl (by kernel_rfl) B15 rfl) rfl ?_
              refine wl_gcall 108 rfl rfl Try.func62 rfl rfl rfl (sameWel_any _ HN2 HR2 hfb hfb) rfl ?_
              rintro e w14 ⟨rfl, ex⟩
              refine ⟨_, rfl, ?_⟩
              replace E := E.ext ex
              replace B4 := B4.ext ex
              replace T5 := T5.ext ex
              replace T6 := T6.ext ex
              replace H7 := H7.ext ex
              replace H8 := H8.ext ex
              replace HN2 := HN2.ext ex
              replace B13 := B13.ext ex
              replace HR2 := HR2.ext ex
              replace B15 := B15.ext ex
              replace S13 := S13.ext ex
              replace S13q := S13q.ext ex
              rw [decide_eq_true rfl]
              refine wl_y (y_pickt rfl rfl) rfl ?_
              refine wl_y (y_move rfl) rfl ?_
              refine wl_gy 113 rfl rfl (y_move rfl) rfl ?_
              refine wl_gy 113 rfl rfl (y_conv rfl Try.underlying38 Try.underlying3 (i64_ok (by omega) (by omega))) rfl ?_
              refine wl_gy 113 rfl rfl (y_move rfl) rfl ?_
              refine wl_gy 113 rfl rfl (Y.as (y_eql rfl rfl) (congrArg Value.bool (decide_eq_true rfl))) rfl ?_
              refine wl_y (y_pickt rfl rfl) rfl ?_
              refine wl_y (y_move rfl) rfl ?_
              refine wl_gy 119 rfl rfl (y_move rfl) rfl ?_
              refine wl_gy 119 rfl rfl (y_move rfl) rfl ?_
              obtain ⟨b1, b2⟩ := secOf_le b
              have a1 := S13.1; have a2 := (U14 _ (HB.ext E)).1; have a3 := S13q.1; have a4 := (U14' _ (HB.ext E)).1
              refine wl_gcall 119 rfl rfl Try.func26 rfl rfl rfl (sm_any S13 (U14 _ (HB.ext E)) (by omega) (by omega)) rfl ?_
              rintro e w15 ⟨rfl, ex⟩
              refine ⟨_, rfl, ?_⟩
              replace E := E.ext ex
              replace B4 := B4.ext ex
              replace T5 := T5.ext ex
              replace T6 := T6.ext ex
              replace H7 := H7.ext ex
              replace H8 := H8.ext ex
              replace HN2 := HN2.ext ex
              replace B13 := B13.ext ex
              replace HR2 := HR2.ext ex
              replace B15 := B15.ext ex
              replace S13 := S13.ext ex
              replace S13q := S13q.ext ex
              rw [decide_eq_true rfl]
              refine wl_y (y_pickt rfl rfl) rfl ?_
              refine wl_y (y_move rfl) rfl ?_
              refine wl_gy 124 rfl rfl (y_move rfl) rfl ?_
              refine wl_gy 124 rfl rfl (y_move rfl) rfl ?_
              refine wl_gcall 124 rfl rfl Try.func26 rfl rfl rfl (sm_any S13q (U14' _ (HB.ext E)) (by omega) (by omega)) rfl ?_
              rintro e w16 ⟨rfl, ex⟩
              refine ⟨_, rfl, ?_⟩
              replace E := E.ext ex
              replace B4 := B4.ext ex
              replace T5 := T5.ext ex
              replace T6 := T6.ext ex
              replace H7 := H7.ext ex
              replace H8 := H8.ext ex
              replace HN2 := HN2.ext ex
              replace B13 := B13.ext ex
              replace HR2 := HR2.ext ex
              replace B15 := B15.ext ex
              replace S13 := S13.ext ex
              replace S13q := S13q.ext ex
              rw [decide_eq_true rfl]
              refine wl_y (y_pickt rfl rfl) rfl ?_
              refine wl_y (y_assign rfl) rfl ?_
              refine wl_nil ?_
              refine wq_then_norm (hK25 ?_)
              refine wc_ret ?_
              refine hret rfl ?_
              exact ⟨rfl, E⟩
          · skip
            refine wl_y (y_move rfl) rfl ?_
            refine wl_gno 67 rfl rfl rfl rfl ?_
            refine wl_gno 67 rfl rfl rfl rfl ?_
            refine wl_gno 67 rfl rfl rfl rfl ?_
            refine wl_gno 67 rfl rfl rfl rfl ?_
            refine wl_gun 71 rfl rfl rfl ?_
            refine wl_gun 71 rfl rfl rfl ?_
            refine wl_gun 71 rfl rfl rfl ?_
            refine wl_gno 67 rfl rfl rfl rfl ?_
            refine wl_y (y_pickf rfl rfl) rfl ?_
            refine wl_y (y_move rfl) rfl ?_
            refine wl_y (y_move rfl) rfl ?_
            refine wl_call Try.func57 rfl rfl rfl (rSecretsBytes_any _ (Bs.ext HJ E) (Bs.ext HY E) (by omega) (by omega)) rfl ?_
            rintro e w8 ⟨A8, n8, c8, rfl, R8, hk8, ex⟩
            refine ⟨_, rfl, ?_⟩
            replace E := E.ext ex
            replace B4 := B4.ext ex
            replace T5 := T5.ext ex
            replace T6 := T6.ext ex
            replace H7 := H7.ext ex
            have H8 := R8.bs; have m8 := H8.1
            refine wl_call Try.func15 rfl rfl rfl (ltold_eq (ok := okSec j y) (v := false) _ (by rw [eq_comm, decide_eq_false_iff_not]; intro h; have := h.1; omega) T6 H8 (fun _ => rfl) (by omega)) rfl ?_
            rintro e w9 ⟨rfl, ex⟩
            refine ⟨_, rfl, ?_⟩
            replace E := E.ext ex
            replace B4 := B4.ext ex
            replace T5 := T5.ext ex
            replace T6 := T6.ext ex
            replace H7 := H7.ext ex
            replace H8 := H8.ext ex
            refine wl_y (y_not rfl) rfl ?_
            refine wl_nil ?_
            refine wq_then_norm (hK15 ?_)
            refine wc_false rfl rfl ?_
            refine wc_skip ?_
            refine wq_then_norm (hK14 ?_)
            refine wc_seq ?_; intro K26 hK26
            refine wc_region ?_
            refine wl_y (y_move rfl) rfl ?_
            refine wl_call Try.func58 rfl rfl rfl (welOf_any _ (HB.ext E) hc (by omega) (wel_fit (by show b.length ≤ 10000; omega))) rfl ?_
            rintro e w10 ⟨ds, rfl, HN, h256, ex⟩
            refine ⟨_, rfl, ?_⟩
            replace E := E.ext ex
            replace B4 := B4.ext ex
            replace T5 := T5.ext ex
            replace T6 := T6.ext ex
            replace H7 := H7.ext ex
            replace H8 := H8.ext ex
            have HN2 := HN.at; obtain ⟨k0', k1', rfl, _⟩ := HN
            refine wl_y (y_move rfl) rfl ?_
            refine wl_y (y_extract rfl rfl) rfl ?_
            refine wl_y (y_extract rfl rfl) rfl ?_
            refine wl_ef (ef_alloc (Z := #[.slice none 0 0, .slice none 0 0]) (by kernel_rfl)) rfl ?_
            rintro _ wA13 ⟨gB13, rfl, D13, hgB13, exA⟩
            refine wl_ef (ef_storeP (o := 0) rfl rfl (by kernel_rfl) D13 (Nat.le_of_ble_eq_true rfl) (all_ones rfl)) rfl ?_
            rintro _ wB13 ⟨rfl, B13, cg⟩
            have ex := exA.chg cg hgB13; clear cg exA D13
            have lB13 := B13.lt; have zB13 := ex.size
            replace E := E.ext ex
            replace B4 := B4.ext ex
            replace T5 := T5.ext ex
            replace T6 := T6.ext ex
            replace H7 := H7.ext ex
            replace H8 := H8.ext ex
            replace HN2 := HN2.ext ex
            refine wl_y (y_assign rfl) rfl ?_
            refine wl_nil ?_
            refine wq_then_norm (hK26 ?_)
            refine wc_seq ?_; intro K27 hK27
            refine wc_region ?_
            refine wl_y (y_move rfl) rfl ?_
            refine wl_call Try.func59 rfl rfl rfl (rWelcomeOf_any _ (HB.ext E) hc (by omega)) rfl ?_
            rintro e w11 ⟨es, rfl, HR, ex⟩
            refine ⟨_, rfl, ?_⟩
            replace E := E.ext ex
            replace B4 := B4.ext ex
            replace T5 := T5.ext ex
            replace T6 := T6.ext ex
            replace H7 := H7.ext ex
            replace H8 := H8.ext ex
            replace HN2 := HN2.ext ex
            replace B13 := B13.ext ex
            have HR2 := HR.at (HB.ext E); obtain ⟨k0'', k1'', rfl, _⟩ := HR
            refine wl_y (y_move rfl) rfl ?_
            refine wl_y (y_extract rfl rfl) rfl ?_
            refine wl_y (y_extract rfl rfl) rfl ?_
            refine wl_ef (ef_alloc (Z := #[.slice none 0 0, .slice none 0 0]) (by kernel_rfl)) rfl ?_
            rintro _ wA15 ⟨gB15, rfl, D15, hgB15, exA⟩
            refine wl_ef (ef_storeP (o := 0) rfl rfl (by kernel_rfl) D15 (Nat.le_of_ble_eq_true rfl) (all_ones rfl)) rfl ?_
            rintro _ wB15 ⟨rfl, B15, cg⟩
            have ex := exA.chg cg hgB15; clear cg exA D15
            have lB15 := B15.lt; have zB15 := ex.size
            replace E := E.ext ex
            replace B4 := B4.ext ex
            replace T5 := T5.ext ex
            replace T6 := T6.ext ex
            replace H7 := H7.ext ex
            replace H8 := H8.ext ex
            replace HN2 := HN2.ext ex
            replace B13 := B13.ext ex
            replace HR2 := HR2.ext ex
            refine wl_y (y_assign rfl) rfl ?_
            refine wl_nil ?_
            refine wq_then_norm (hK27 ?_)
            refine wc_seq ?_; intro K28 hK28
            refine wc_region ?_
            refine wl_y (y_move rfl) rfl ?_
            refine wl_call Try.func60 rfl rfl rfl (SecretsOf_any _ (HB.ext E) hc (by omega)) rfl ?_
            rintro e w12 ⟨h13, h13', rfl, S13, S13q, hs256, ex⟩
            refine ⟨_, rfl, ?_⟩
            replace E := E.ext ex
            replace B4 := B4.ext ex
            replace T5 := T5.ext ex
            replace T6 := T6.ext ex
            replace H7 := H7.ext ex
            replace H8 := H8.ext ex
            replace HN2 := HN2.ext ex
            replace B13 := B13.ext ex
            replace HR2 := HR2.ext ex
            replace B15 := B15.ext ex
            skip
            refine wl_y (y_move rfl) rfl ?_
            refine wl_y (y_extract rfl rfl) rfl ?_
            refine wl_y (y_extract rfl rfl) rfl ?_
            refine wl_y (y_extract rfl rfl) rfl ?_
            refine wl_y (y_assign rfl) rfl ?_
            refine wl_y (y_assign rfl) rfl ?_
            refine wl_y (y_assign rfl) rfl ?_
            refine wl_nil ?_
            refine wq_then_norm (hK28 ?_)
            refine wc_seq ?_; intro K29 hK29
            refine wc_region ?_
            refine wl_y (y_move rfl) rfl ?_
            refine wl_call Try.func61 rfl rfl rfl (rSecretsOf_any _ (HB.ext E) hc (by omega)) rfl ?_
            rintro e w13 ⟨h14, h14', rfl, U14, U14', ex⟩
            refine ⟨_, rfl, ?_⟩
            replace E := E.ext ex
            replace B4 := B4.ext ex
            replace T5 := T5.ext ex
            replace T6 := T6.ext ex
            replace H7 := H7.ext ex
            replace H8 := H8.ext ex
            replace HN2 := HN2.ext ex
            replace B13 := B13.ext ex
            replace HR2 := HR2.ext ex
            replace B15 := B15.ext ex
            replace S13 := S13.ext ex
            replace S13q := S13q.ext ex
            skip
            refine wl_y (y_move rfl) rfl ?_
            refine wl_y (y_extract rfl rfl) rfl ?_
            refine wl_y (y_extract rfl rfl) rfl ?_
            refine wl_y (y_extract rfl rfl) rfl ?_
            refine wl_y (y_assign rfl) rfl ?_
            refine wl_y (y_assign rfl) rfl ?_
            refine wl_y (y_assign rfl) rfl ?_
            refine wl_nil ?_
            refine wq_then_norm (hK29 ?_)
            refine wc_seq ?_; intro K30 hK30
            refine wc_region ?_
            refine wl_y (y_move rfl) rfl ?_
            refine wl_y (y_conv rfl Try.underlying38 Try.underlying3 (i64_ok (by omega) (by omega))) rfl ?_
            refine wl_y (y_move rfl) rfl ?_
            refine wl_y (Y.as (y_eql rfl rfl) (congrArg Value.bool (decide_eq_true rfl))) rfl ?_
            refine wl_y (y_move rfl) rfl ?_
            refine wl_gy 108 rfl rfl (y_loadx (o := 0) (s := 2) rfl Try.underlying80 rfl (by kernel_rfl) B13 rfl) rfl ?_
            refine wl_gy 108 rfl rfl (y_loadx (o := 0) (s := 2) rfl Try.underlying80 rfl (by kernel_rfl) B15 rfl) rfl ?_
            refine wl_gcall 108 rfl rfl Try.func62 rfl rfl rfl (sameWel_any _ HN2 HR2 hfb hfb) rfl ?_
            rintro e w14 ⟨rfl, ex⟩
            refine ⟨_, rfl, ?_⟩
            replace E := E.ext ex
            replace B4 := B4.ext ex
            replace T5 := T5.ext ex
            replace T6 := T6.ext ex
            replace H7 := H7.ext ex
            replace H8 := H8.ext ex
            replace HN2 := HN2.ext ex
            replace B13 := B13.ext ex
            replace HR2 := HR2.ext ex
            replace B15 := B15.ext ex
            replace S13 := S13.ext ex
            replace S13q := S13q.ext ex
            rw [decide_eq_true rfl]
            refine wl_y (y_pickt rfl rfl) rfl ?_
            refine wl_y (y_move rfl) rfl ?_
            refine wl_gy 113 rfl rfl (y_move rfl) rfl ?_
            refine wl_gy 113 rfl rfl (y_conv rfl Try.underlying38 Try.underlying3 (i64_ok (by omega) (by omega))) rfl ?_
            refine wl_gy 113 rfl rfl (y_move rfl) rfl ?_
            refine wl_gy 113 rfl rfl (Y.as (y_eql rfl rfl) (congrArg Value.bool (decide_eq_true rfl))) rfl ?_
            refine wl_y (y_pickt rfl rfl) rfl ?_
            refine wl_y (y_move rfl) rfl ?_
            refine wl_gy 119 rfl rfl (y_move rfl) rfl ?_
            refine wl_gy 119 rfl rfl (y_move rfl) rfl ?_
            obtain ⟨b1, b2⟩ := secOf_le b
            have a1 := S13.1; have a2 := (U14 _ (HB.ext E)).1; have a3 := S13q.1; have a4 := (U14' _ (HB.ext E)).1
            refine wl_gcall 119 rfl rfl Try.func26 rfl rfl rfl (sm_any S13 (U14 _ (HB.ext E)) (by omega) (by omega)) rfl ?_
            rintro e w15 ⟨rfl, ex⟩
            refine ⟨_, rfl, ?_⟩
            replace E := E.ext ex
            replace B4 := B4.ext ex
            replace T5 := T5.ext ex
            replace T6 := T6.ext ex
            replace H7 := H7.ext ex
            replace H8 := H8.ext ex
            replace HN2 := HN2.ext ex
            replace B13 := B13.ext ex
            replace HR2 := HR2.ext ex
            replace B15 := B15.ext ex
            replace S13 := S13.ext ex
            replace S13q := S13q.ext ex
            rw [decide_eq_true rfl]
            refine wl_y (y_pickt rfl rfl) rfl ?_
            refine wl_y (y_move rfl) rfl ?_
            refine wl_gy 124 rfl rfl (y_move rfl) rfl ?_
            refine wl_gy 124 rfl rfl (y_move rfl) rfl ?_
            refine wl_gcall 124 rfl rfl Try.func26 rfl rfl rfl (sm_any S13q (U14' _ (HB.ext E)) (by omega) (by omega)) rfl ?_
            rintro e w16 ⟨rfl, ex⟩
            refine ⟨_, rfl, ?_⟩
            replace E := E.ext ex
            replace B4 := B4.ext ex
            replace T5 := T5.ext ex
            replace T6 := T6.ext ex
            replace H7 := H7.ext ex
            replace H8 := H8.ext ex
            replace HN2 := HN2.ext ex
            replace B13 := B13.ext ex
            replace HR2 := HR2.ext ex
            replace B15 := B15.ext ex
            replace S13 := S13.ext ex
            replace S13q := S13q.ext ex
            rw [decide_eq_true rfl]
            refine wl_y (y_pickt rfl rfl) rfl ?_
            refine wl_y (y_assign rfl) rfl ?_
            refine wl_nil ?_
            refine wq_then_norm (hK30 ?_)
            refine wc_ret ?_
            refine hret rfl ?_
            exact ⟨rfl, E⟩
end Go.Proofs.Ytpgalbgonmclaaa
