/- sha's running digest: Write. -/
import Derived.Test.YtopbahbhldgbbaaStepW
import Derived.Test.YtopbahbhldgbbaaHashB
namespace Go.Proofs.Ytopbahbhldgbbaa
open Go.RowKit
theorem blocks_append (s : Sha.S8) (a b : List UInt8) : ∀ k, 64 * k ≤ a.length → Sha.blocks s (a ++ b) k = Sha.blocks s a k
  | 0, _ => rfl
  | k + 1, h => by
    show Sha.step (Sha.blocks s (a ++ b) k) _ = Sha.step (Sha.blocks s a k) _
    rw [blocks_append s a b k (by omega), List.drop_append_of_le_length (by omega), List.take_append_of_le_length (by rw [List.length_drop]; omega)]
/-- Two worlds of which the second differs in the blocks of a digest and of its bytes alone. -/
structure Upd (w w' : World) (g : Nat) (A : Option Addr) : Prop where
  os : w'.os = w.os
  tape : w'.tape = w.tape
  output : w'.output = w.output
  size : w.heap.size ≤ w'.heap.size
  block : ∀ k, k < w.heap.size → k ≠ g → (∀ o, A ≠ some ⟨k, o, none⟩) → w'.heap[k]? = w.heap[k]?
theorem Upd.of {w w' : World} {g : Nat} (h : Chg w g w') (A : Option Addr) : Upd w w' g A := ⟨h.os, h.tape, h.output, h.size, fun k hk hn _ => h.block k hk (fun e => hn (by injection e))⟩
theorem Upd.tr {w w1 w2 : World} {g : Nat} {A : Option Addr} (h : Upd w w1 g A) (k : Chg w1 g w2) : Upd w w2 g A :=
  ⟨k.os.trans h.os, k.tape.trans h.tape, k.output.trans h.output, Nat.le_trans h.size k.size, fun b hb hn hA => (k.block b (Nat.lt_of_lt_of_le hb h.size) (fun e => hn (by injection e))).trans (h.block b hb hn hA)⟩
theorem own_no {A : Option Addr} {n c k : Nat} (hs : ∀ b o s, A = some ⟨b, o, s⟩ → s = none) (h : ∀ o, A ≠ some ⟨k, o, none⟩) : (Value.slice A n c).ownBlock ≠ some k := by
  cases A with
  | none => simp [Value.ownBlock]
  | some a =>
    obtain ⟨b, o, s⟩ := a
    obtain rfl := hs b o s rfl
    simp only [Value.ownBlock]
    intro e
    injection e with e
    subst e
    exact h o rfl
theorem Upd.own {w w1 w2 : World} {g n c : Nat} {A : Option Addr} (h : Upd w w1 g A) (k : w1.grownBy w2 (Value.slice A n c).ownBlock) (hs : ∀ b o s, A = some ⟨b, o, s⟩ → s = none) : Upd w w2 g A :=
  ⟨k.os.trans h.os, k.tape.trans h.tape, k.output.trans h.output, Nat.le_trans h.size k.size, fun b hb hn hA => (k.block b (Nat.lt_of_lt_of_le hb h.size) (fun e => own_no hs hA e.symm)).trans (h.block b hb hn hA)⟩
/-- The second slice lies where the first did, or in a block that came later. -/
def Near (z : Nat) (A A' : Option Addr) : Prop := ∀ b o, A' = some ⟨b, o, none⟩ → (∃ o', A = some ⟨b, o', none⟩) ∨ z ≤ b
theorem Near.refl (z : Nat) (A : Option Addr) : Near z A A := fun b o h => .inl ⟨o, h⟩
theorem near_own {z n c n' c' : Nat} {A A' : Option Addr} (hs : ∀ b o s, A = some ⟨b, o, s⟩ → s = none) (h : (Value.slice A' n' c').ownBlock = (Value.slice A n c).ownBlock ∨ ∀ k, (Value.slice A' n' c').ownBlock = some k → z ≤ k) : Near z A A' := by
  intro b o hA
  subst hA
  rcases h with h | h
  · cases A with
    | none => simp [Value.ownBlock] at h
    | some a =>
      obtain ⟨b', o', s⟩ := a
      obtain rfl := hs b' o' s rfl
      simp only [Value.ownBlock, Option.some.injEq] at h
      subst h
      exact .inl ⟨o', rfl⟩
  · exact .inr (h b (by simp [Value.ownBlock]))
theorem Near.cut {z c : Nat} {A A' : Option Addr} (h : Near z A A') (hs : ∀ b o s, A' = some ⟨b, o, s⟩ → s = none) (j : Nat) : Near z A (cutA A' c j 1) := by
  intro b o e
  unfold cutA at e
  split at e
  · exact h b o e
  · cases A' with
    | none => simp at e
    | some a =>
      obtain ⟨b', o', s⟩ := a
      obtain rfl := hs b' o' s rfl
      simp only [Option.map_some, Option.some.injEq, Addr.add_plain] at e
      injection e with e1 e2 _
      subst e1
      exact h b' o' rfl
theorem Off.none_s {w : World} {base : Nat} {e : TypeId} {A : Option Addr} {n c : Nat} {xs : List Value} (h : Off w base e A n c xs) (b o : Nat) (s) (hA : A = some ⟨b, o, s⟩) : s = none := by
  rcases h.2 with ⟨hv, _⟩ | ⟨g, off, cur, hv, _⟩
  · rw [hv] at hA; cases hA
  · rw [hv] at hA; injection hA with hA; injection hA with _ _ h3; exact h3.symm
theorem Off.same {w w' : World} {base : Nat} {e : TypeId} {A : Option Addr} {n c : Nat} {xs : List Value} (h : Off w base e A n c xs) (k : ∀ b o, A = some ⟨b, o, none⟩ → b < w.heap.size → w'.heap[b]? = w.heap[b]?) : Off w' base e A n c xs := by
  refine ⟨h.1, ?_⟩
  rcases h.2 with hv | ⟨g, off, cur, hv, hb, hg, hr⟩
  · exact .inl hv
  · exact .inr ⟨g, off, cur, hv, hb, (k g off hv (Array.getElem?_eq_some_iff.1 hg).1).trans hg, hr⟩
theorem Off.chg {w w' : World} {base g : Nat} {e : TypeId} {A : Option Addr} {n c : Nat} {xs : List Value} (h : Off w base e A n c xs) (k : Chg w g w') (hn : ∀ o, A ≠ some ⟨g, o, none⟩) : Off w' base e A n c xs :=
  h.same fun b o hA hb => k.block b hb (fun e => by injection e with e; subst e; exact hn o hA)
theorem Off.ext {w w' : World} {base : Nat} {e : TypeId} {A : Option Addr} {n c : Nat} {xs : List Value} (h : Off w base e A n c xs) (k : Ext w w') : Off w' base e A n c xs :=
  h.same fun b _ _ hb => k.block b hb
theorem Off.cutA {w : World} {base : Nat} {e : TypeId} {A : Option Addr} {n c j : Nat} {xs : List Value} (h : Off w base e A n c xs) (hj : j ≤ n) : Off w base e (cutA A c j 1) (n - j) (c - j) (xs.drop j) := by
  unfold Go.Proofs.Ytopbahbhldgbbaa.cutA
  split
  · rename_i hcj
    refine ⟨by rw [List.length_drop, h.1], ?_⟩
    rcases h.2 with ⟨hA, hn, hc⟩ | ⟨g', off', cur, hA, hb, hg, hnc, hcm, hcs, ht⟩
    · exact .inl ⟨hA, by omega, by omega⟩
    · refine .inr ⟨g', off', cur, hA, hb, hg, by omega, by omega, by omega, ?_⟩
      rw [show n - j = 0 from by omega, List.take_zero, List.drop_eq_nil_of_le (by rw [h.1]; omega)]
  · rcases A with _ | ⟨g, off, s⟩
    · rcases h.2 with ⟨_, hn, hc⟩ | ⟨_, _, _, hA, _⟩
      · exact ⟨by rw [List.length_drop, h.1], .inl ⟨rfl, by omega, by omega⟩⟩
      · cases hA
    · obtain rfl := h.none_s g off s rfl
      have := Off.cut h hj
      simpa [Addr.add_plain] using this
theorem Off.bs {w : World} {base : Nat} {e : TypeId} {A : Option Addr} {n c : Nat} {xs : List UInt8} (h : Off w base e A n c (xs.map bv)) : Bs w A n xs := ⟨by have := h.1; simpa using this, Off.at h⟩
theorem Off.cap {w : World} {base : Nat} {e : TypeId} {A : Option Addr} {n c : Nat} {xs : List Value} (h : Off w base e A n c xs) : n ≤ c := by
  rcases h.2 with ⟨_, hn, hc⟩ | ⟨_, _, _, _, _, _, hnc, _⟩
  · omega
  · exact hnc
/-- A digest to which these bytes have been written: its block, and what is left of them. -/
structure HashS (w : World) (base gh : Nat) (A : Option Addr) (m c : Nat) (T : List UInt8) : Prop where
  blk : Blk w gh 70 (hashV (Sha.blocks Sha.IV T (T.length / 64)) A m c T.length)
  off : Off w base 5 A m c ((T.drop (64 * (T.length / 64))).map bv)
  far : ∀ o, A ≠ some ⟨gh, o, none⟩
  at' : base ≤ gh
theorem Bs.chg' {w w' : World} {g n : Nat} {B : Option Addr} {ys : List UInt8} (h : Bs w B n ys) (k : Chg w g w') (hB : 0 < n → ∀ o, B ≠ some ⟨g, o, none⟩) : Bs w' B n ys := by
  rcases Nat.eq_zero_or_pos n with h0 | h0
  · subst h0
    exact ⟨h.1, .inl (by rw [List.eq_nil_of_length_eq_zero h.1]; rfl)⟩
  · exact h.chg k (fun b o e e2 => hB h0 o (e2 ▸ e))
attribute [local irreducible] Y Ef WL WC WK WQ WM OpM WN WF OpN
theorem hash_n (s : Sha.S8) (A : Option Addr) (m c N N' : Nat) : (hashV s A m c N).setIfInBounds 9 (.int .i64 (N' : Int)) = hashV s A m c N' := rfl
theorem hash_r (s : Sha.S8) (A A' : Option Addr) (m c N m' c' : Nat) : (hashV s A m c N).setIfInBounds 8 (.slice A' m' c') = hashV s A' m' c' N := rfl
theorem hwrite_any (base gh : Nat) (A B : Option Addr) (m c n cb : Nat) (T ys : List UInt8) (w : World) (H : HashS w base gh A m c T) (HB : Bs w B n ys) (hb : base ≤ w.heap.size) (hl : T.length + n ≤ 1000000) (hBg : 0 < n → ∀ o, B ≠ some ⟨gh, o, none⟩) :
    Calls Try.prog 12 #[.pointer (some ⟨gh, 0, none⟩), .slice B n cb] w fun e w' => e = .returned (.tuple #[]) ∧ ∃ A' m' c', HashS w' base gh A' m' c' (T ++ ys) ∧ Upd w w' gh A ∧ Near w.heap.size A A' := by
  obtain ⟨H, O, hf, hg⟩ := H
  have hyl := HB.1
  have hmT := O.1
  rw [List.length_map, List.length_drop] at hmT
  have hgl := H.lt
  have U := Upd.of (Chg.refl w gh) A
  have ha := O.none_s
  refine vc_enter0 47 Try.func12 rfl rfl rfl rfl ?_
  intro Q hret
  refine wc_seq ?_; intro K1 hK1
  refine wc_seq ?_; intro K2 hK2
  refine wc_region ?_
  refine wl_y (y_move rfl) rfl ?_
  refine wl_y (Y.as (y_eqlp rfl rfl Try.underlying25) (congrArg Value.bool (show _ = false from rfl))) rfl ?_
  refine wl_nil ?_
  refine wq_then_norm (hK2 ?_)
  refine wc_false rfl rfl ?_
  refine wc_skip ?_
  refine wq_then_norm (hK1 ?_)
  refine wc_seq ?_; intro K3 hK3
  refine wc_region ?_
  refine wl_y (y_move rfl) rfl ?_
  refine wl_y (y_nilp rfl) rfl ?_
  refine wl_y (y_fieldAddr (o := 9) (s := 1) (off := 0) (o' := 9) rfl Try.underlying70 rfl (by kernel_rfl) rfl rfl) rfl ?_
  refine wl_y (y_load1 rfl Try.underlying3 rfl (H.get (hash_len _ A m c _))) rfl ?_
  refine wl_y (y_move rfl) rfl ?_
  refine wl_y (y_len_slice rfl Try.underlying24) rfl ?_
  refine wl_y (Y.as (y_add rfl rfl (i64_ok (by omega) (by omega))) (congrArg (Value.int .i64) (show _ = (((T ++ ys).length : Nat) : Int) from by rw [List.length_append]; omega))) rfl ?_
  refine wl_y (y_nilp rfl) rfl ?_
  refine wl_y (y_fieldAddr (o := 9) (s := 1) (off := 0) (o' := 9) rfl Try.underlying70 rfl (by kernel_rfl) rfl rfl) rfl ?_
  refine wl_ef (ef_storeB rfl rfl rfl (by kernel_rfl) H (by show 9 < 10; omega)) rfl ?_
  rintro _ w1 ⟨rfl, H1, cg⟩
  rw [hash_n] at H1; replace U := U.tr cg; have O1 := O.chg cg hf; replace HB := HB.chg' cg hBg; have hz1 := cg.size; have hgl1 := H1.lt
  refine wl_nil ?_
  refine wq_then_norm (hK3 ?_)
  refine wc_seq ?_; intro K4 hK4
  refine wc_region ?_
  refine wl_y (y_move rfl) rfl ?_
  refine wl_y (y_move rfl) rfl ?_
  refine wl_y (y_nilp rfl) rfl ?_
  refine wl_y (y_fieldAddr (o := 8) (s := 1) (off := 0) (o' := 8) rfl Try.underlying70 rfl (by kernel_rfl) rfl rfl) rfl ?_
  refine wl_y (y_load1 rfl Try.underlying24 rfl (H1.get (hash_rest _ A m c _))) rfl ?_
  refine wl_y (y_move rfl) rfl ?_
  refine wl_ef (ef_appO rfl rfl eltB O1 HB.2 (by rw [List.length_map]; exact hyl) (by intro u hu; exact bv_one u hu) (by omega) (by omega) (by omega)) rfl ?_
  rintro _ w2 ⟨A2, c2, rfl, O2, _, gr, hn2⟩
  replace U := U.own gr ha; have H2 := H1.grown gr (fun e => own_no ha hf e.symm); have N2 := near_own (z := w1.heap.size) ha hn2; have f2 : ∀ o, A2 ≠ some ⟨gh, o, none⟩ := fun o e => by
    rcases N2 gh o e with ⟨o', h⟩ | h
    · exact hf o' h
    · omega
  refine wl_y (y_nilp rfl) rfl ?_
  refine wl_y (y_fieldAddr (o := 8) (s := 1) (off := 0) (o' := 8) rfl Try.underlying70 rfl (by kernel_rfl) rfl rfl) rfl ?_
  refine wl_ef (ef_storeB rfl rfl rfl (by kernel_rfl) H2 (by show 8 < 10; omega)) rfl ?_
  rintro _ w3 ⟨rfl, H3, cg⟩
  rw [hash_r] at H3; replace U := U.tr cg; have O3 := O2.chg cg f2; have N3 : Near w.heap.size A A2 := (fun b o e => (N2 b o e).imp id (Nat.le_trans hz1)); have e3 : (T.drop (64 * (T.length / 64))).map bv ++ ys.map bv = ((T ++ ys).drop (64 * (T.length / 64))).map bv := by rw [List.drop_append_of_le_length (by omega), List.map_append]
  refine wl_nil ?_
  refine wq_then_norm (hK4 ?_)
  refine wc_block ?_
  rw [e3] at O3; rw [← blocks_append Sha.IV T ys (T.length / 64) (by omega)] at H3
  refine wc_loop (fun n' L wr => ∃ (k m' c' : Nat) (A' : Option Addr), L = [(0, .pointer (some ⟨gh, 0, none⟩))] ∧ n' = 1 + m' ∧ (Upd w wr gh A ∧ Near w.heap.size A A' ∧ Blk wr gh 70 (hashV (Sha.blocks Sha.IV (T ++ ys) k) A' m' c' (T ++ ys).length) ∧ Off wr base 5 A' m' c' (((T ++ ys).drop (64 * k)).map bv) ∧ 64 * k + m' = (T ++ ys).length ∧ (∀ o, A' ≠ some ⟨gh, o, none⟩))) _ _ ⟨T.length / 64, m + n, c2, A2, rfl, rfl, U, N3, H3, O3, (by rw [List.length_append]; omega), f2⟩ ⟨rfl, trivial⟩ ?_
  rintro KL1 n' L wr ⟨k, m', c', A', rfl, rfl, U, N, H, O, hk, f⟩ hL1
  refine wc_seq ?_; intro K5 hK5
  refine wc_seq ?_; intro K6 hK6
  refine wc_region ?_
  refine wl_y (y_move rfl) rfl ?_
  refine wl_y (y_nilp rfl) rfl ?_
  refine wl_y (y_fieldAddr (o := 8) (s := 1) (off := 0) (o' := 8) rfl Try.underlying70 rfl (by kernel_rfl) rfl rfl) rfl ?_
  refine wl_y (y_load1 rfl Try.underlying24 rfl (H.get (hash_rest _ A' m' c' _))) rfl ?_
  refine wl_y (y_len_slice rfl Try.underlying24) rfl ?_
  refine wl_y (y_geq rfl rfl) rfl ?_
  refine wl_nil ?_
  refine wq_then_norm (hK6 ?_)
  refine wc_dec rfl (fun hc2 => ?_) (fun hc2 => ?_)
  · skip
    refine wc_skip ?_
    refine wq_then_norm (hK5 ?_)
    refine wc_block ?_
    refine wc_seq ?_; intro K7 hK7
    obtain ⟨S, hS⟩ : ∃ S, S = Sha.blocks Sha.IV (T ++ ys) k := ⟨_, rfl⟩
    have hSk : S.ok := by rw [hS]; exact Sha.blocks_ok Sha.IV_ok _ _
    have hSn : Sha.blocks Sha.IV (T ++ ys) (k + 1) = Sha.step S (((T ++ ys).drop (64 * k)).take 64) := by rw [hS]; rfl
    rw [← hS] at H
    have hc' := O.cap
    refine wc_draw (by kernel_rfl) 9 rfl ?_; intro wd4 ex hd4
    replace H := H.ext ex; replace O := O.ext ex; replace U := U.tr (Chg.ofExt ex gh)
    refine wm_y 0 rfl (by kernel_rfl) (y_move rfl) rfl ?_
    refine wm_y 1 rfl (by kernel_rfl) (y_nilp rfl) rfl ?_
    refine wm_y 2 rfl (by kernel_rfl) (y_fieldAddr (o := 0) (s := 8) (off := 0) (o' := 0) rfl Try.underlying70 rfl (by kernel_rfl) rfl rfl) rfl ?_
    refine wm_y 3 rfl (by kernel_rfl) (y_move rfl) rfl ?_
    refine wm_y 4 rfl (by kernel_rfl) (y_nilp rfl) rfl ?_
    refine wm_y 5 rfl (by kernel_rfl) (y_fieldAddr (o := 8) (s := 1) (off := 0) (o' := 8) rfl Try.underlying70 rfl (by kernel_rfl) rfl rfl) rfl ?_
    refine wm_y 6 rfl (by kernel_rfl) (y_load1 rfl Try.underlying24 rfl (H.get (hash_rest _ A' m' c' _))) rfl ?_
    refine wm_y 7 rfl (by kernel_rfl) (y_cuth (s := 1) rfl rfl Try.underlying24 (by kernel_rfl) (j := 64) rfl (by omega)) rfl ?_
    refine wm_one 8 (by kernel_rfl) ?_; refine om_call rfl Try.func43 rfl rfl rfl (stepW_any A' c' (((T ++ ys).drop (64 * k)).take 64) gh S #[.slice A' m' c', .int .i64 ((T ++ ys).length : Int)] _ _ (O.bs.take (by omega)) hSk H) rfl ?_
    rintro e w5 ⟨rfl, H5, cg⟩
    refine ⟨_, rfl, .inl (by kernel_rfl), ?_⟩
    have O5 := O.chg cg f; have U5 := U.tr cg; rw [← hSn] at H5
    refine wm_done (by kernel_rfl) ?_
    refine wq_nop ?_
    refine wq_then_norm (hK7 ?_)
    refine wc_region ?_
    refine wl_y (y_move rfl) rfl ?_
    refine wl_y (y_move rfl) rfl ?_
    refine wl_y (y_nilp rfl) rfl ?_
    refine wl_y (y_fieldAddr (o := 8) (s := 1) (off := 0) (o' := 8) rfl Try.underlying70 rfl (by kernel_rfl) rfl rfl) rfl ?_
    refine wl_y (y_load1 rfl Try.underlying24 rfl (H5.get (hash_rest _ A' m' c' _))) rfl ?_
    refine wl_y (y_cutl (s := 1) rfl rfl Try.underlying24 (by kernel_rfl) (j := 64) rfl (by omega)) rfl ?_
    refine wl_y (y_nilp rfl) rfl ?_
    refine wl_y (y_fieldAddr (o := 8) (s := 1) (off := 0) (o' := 8) rfl Try.underlying70 rfl (by kernel_rfl) rfl rfl) rfl ?_
    refine wl_ef (ef_storeB rfl rfl rfl (by kernel_rfl) H5 (by show 8 < 10; omega)) rfl ?_
    rintro _ w6 ⟨rfl, H6, cg⟩
    replace H6 := H6.congr (hash_r _ A' (cutA A' c' 64 1) m' c' (T ++ ys).length (m' - 64) (c' - 64)); have N6 := N.cut (c := c') O.none_s 64; have f6 : ∀ o, cutA A' c' 64 1 ≠ some ⟨gh, o, none⟩ := fun o e => by
      rcases (Near.refl (wr.heap.size + gh + 1) A').cut (c := c') O.none_s 64 gh o e with ⟨o', h⟩ | h
      · exact f o' h
      · omega
    refine wl_nil ?_
    refine wq_blk_norm ?_
    refine wq_then_norm ?_
    have O6 := (O5.cutA (j := 64) (by omega)).chg cg f6
    rw [← List.map_drop, List.drop_drop] at O6
    refine hL1 _ _ ⟨k + 1, m' - 64, c' - 64, cutA A' c' 64 1, rfl, rfl, U5.tr cg, N6, H6, O6, (by omega), f6⟩ (by omega) ⟨rfl, trivial⟩
  · skip
    refine wc_exit ?_
    refine wq_then_exit ?_
    refine wq_then_exit ?_
    refine wq_blk_hit ?_
    refine hret (.inr rfl) ?_
    obtain rfl : k = (T ++ ys).length / 64 := by omega
    exact ⟨rfl, A', m', c', ⟨H, O, f, hg⟩, U, N⟩
end Go.Proofs.Ytopbahbhldgbbaa
