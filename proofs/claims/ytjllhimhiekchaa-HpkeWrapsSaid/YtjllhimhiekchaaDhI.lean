/- The law DhShares: two have one secret; it answers true whatever it is given. -/
import Derived.Test.YtjllhimhiekchaaDhC
import Derived.Test.YtjllhimhiekchaaFieldQ
import Derived.Test.YtjllhimhiekchaaKdfA
import Derived.Test.YtjllhimhiekchaaBigC
/- dh's Mul, Base, Shared, and the reference's Clamp: what each hands back. -/
namespace Go.Proofs.Ytjllhimhiekchaa
open Go.RowKit
attribute [local irreducible] Y Ef WL WC WK WQ WM OpM WN WF OpN
/-- A product, or why there is none. -/
def dhM (xs ys : List UInt8) : List UInt8 × Nat := if xs.length ≠ 32 then ([], 1) else if ys.length ≠ 32 then ([], 3) else (Fp.le 32 (dhMul (Fp.num (clampB xs)) (Fp.of (Fp.ofB ys))).val, 0)
def dhS (xs ys : List UInt8) : List UInt8 × Nat := if (dhM xs ys).2 ≠ 0 then ([], (dhM xs ys).2) else if (dhM xs ys).1.any (fun x => decide (x ≠ 0)) then ((dhM xs ys).1, 0) else ([], 9)
/-- Bytes and an error's number; the bytes are new. -/
def RetB (w : World) (r : List UInt8 × Nat) (e : Ending) (w' : World) : Prop := ∃ A k c, e = .returned (.tuple #[.slice A k c, .int .u8 (r.2 : Int)]) ∧ Bs w' A k r.1 ∧ (∀ b o, A = some ⟨b, o, none⟩ → w.heap.size ≤ b) ∧ Ext w w'
theorem dhmul_any (A B : Option Addr) (n c m d : Nat) (xs ys : List UInt8) (w : World) (HA : Bs w A n xs) (HB : Bs w B m ys) :
    Calls Try.prog 31 #[.slice A n c, .slice B m d] w (RetB w (dhM xs ys)) := by
  have hx := HA.1; have hy := HB.1
  refine vc_enter2 19 Try.func31 rfl rfl rfl rfl ?_
  intro Q hret
  refine wc_seq ?_; intro K1 hK1
  refine wc_region ?_
  refine wl_y (y_assign rfl) rfl ?_
  refine wl_y (y_assign rfl) rfl ?_
  refine wl_nil ?_
  refine wq_then_norm (hK1 ?_)
  refine wc_seq ?_; intro K2 hK2
  refine wc_block ?_
  refine wc_seq ?_; intro K3 hK3
  refine wc_region ?_
  refine wl_y (y_move rfl) rfl ?_
  refine wl_y (y_len_slice rfl Try.underlying22) rfl ?_
  refine wl_y (y_neq rfl rfl) rfl ?_
  refine wl_y (y_assign rfl) rfl ?_
  refine wl_nil ?_
  refine wq_then_norm (hK3 ?_)
  refine wc_dec rfl (fun hc1 => ?_) (fun hc1 => ?_)
  · skip
    refine wc_seq ?_; intro K4 hK4
    refine wc_region ?_
    refine wl_y (y_assign rfl) rfl ?_
    refine wl_y (y_assign rfl) rfl ?_
    refine wl_nil ?_
    refine wq_then_norm (hK4 ?_)
    refine wc_ret ?_
    refine wq_blk_ret ?_
    refine wq_then_ret ?_
    refine hret rfl rfl ?_
    exact ⟨none, 0, 0, by rw [dhM, if_pos (by omega)]; rfl, by rw [dhM, if_pos (by omega)]; exact Bs.nil _ _, fun _ _ h => (by cases h), Ext.refl _⟩
  · skip
    refine wc_seq ?_; intro K5 hK5
    refine wc_region ?_
    refine wl_y (y_move rfl) rfl ?_
    refine wl_y (y_len_slice rfl Try.underlying22) rfl ?_
    refine wl_y (y_neq rfl rfl) rfl ?_
    refine wl_y (y_assign rfl) rfl ?_
    refine wl_nil ?_
    refine wq_then_norm (hK5 ?_)
    refine wc_dec rfl (fun hc2 => ?_) (fun hc2 => ?_)
    · skip
      refine wc_seq ?_; intro K6 hK6
      refine wc_region ?_
      refine wl_y (y_assign rfl) rfl ?_
      refine wl_y (y_assign rfl) rfl ?_
      refine wl_nil ?_
      refine wq_then_norm (hK6 ?_)
      refine wc_ret ?_
      refine wq_blk_ret ?_
      refine wq_then_ret ?_
      refine hret rfl rfl ?_
      exact ⟨none, 0, 0, by rw [dhM, if_neg (by omega), if_pos (by omega)]; rfl, by rw [dhM, if_neg (by omega), if_pos (by omega)]; exact Bs.nil _ _, fun _ _ h => (by cases h), Ext.refl _⟩
    · skip
      refine wc_skip ?_
      refine wq_blk_norm ?_
      refine wq_then_norm (hK2 ?_)
      refine wc_seq ?_; intro K7 hK7
      have hM : dhM xs ys = (Fp.le 32 (dhMul (Fp.num (clampB xs)) (Fp.of (Fp.ofB ys))).val, 0) := by rw [dhM, if_neg (by omega), if_neg (by omega)]
      refine wc_region ?_
      refine wl_y (y_move rfl) rfl ?_
      refine wl_call Try.func53 rfl rfl rfl (clamp_any A n c xs _ HA) rfl ?_
      rintro e w1 ⟨g1, rfl, H1, ex⟩
      refine ⟨_, rfl, ?_⟩
      replace HB := HB.ext ex
      have E1 := ex
      refine wl_y (y_move rfl) rfl ?_
      refine wl_call Try.func54 rfl rfl rfl (Fof_any B m d ys _ HB) rfl ?_
      rintro e w2 ⟨c2, rfl, F2, ex⟩
      refine ⟨_, rfl, ?_⟩
      replace HB := HB.ext ex
      replace H1 := H1.ext ex
      obtain ⟨f2, rfl, F2⟩ := F2.fe; have E2 := E1.ext ex
      refine wl_call Try.func52 rfl rfl rfl (product_any _ 32 _ f2 _ _ H1 F2) rfl ?_
      rintro e w3 ⟨g3, rfl, hg3, B3, ex⟩
      refine ⟨_, rfl, ?_⟩
      replace HB := HB.ext ex
      replace H1 := H1.ext ex
      have E3 := E2.ext ex; have hs := E2.size
      refine wl_y (y_assign rfl) rfl ?_
      refine wl_y (y_assign rfl) rfl ?_
      refine wl_nil ?_
      refine wq_then_norm (hK7 ?_)
      refine wc_ret ?_
      refine hret rfl rfl ?_
      exact ⟨some ⟨g3, 0, none⟩, 32, 32, by rw [hM]; rfl, by rw [hM]; exact bs_blk' B3 (Fp.le_length 32 _), fun b o h => by injection h with h; injection h with h; omega, E3⟩
theorem dhbase_any (A : Option Addr) (n c : Nat) (xs : List UInt8) (w : World) (HA : Bs w A n xs) :
    Calls Try.prog 12 #[.slice A n c] w (RetB w (dhM xs (Fp.le 32 9))) := by
  refine vc_enter2 10 Try.func12 rfl rfl rfl rfl ?_
  intro Q hret
  refine wc_seq ?_; intro K1 hK1
  refine wc_region ?_
  refine wl_y (y_assign rfl) rfl ?_
  refine wl_y (y_assign rfl) rfl ?_
  refine wl_nil ?_
  refine wq_then_norm (hK1 ?_)
  refine wc_seq ?_; intro K2 hK2
  refine wc_region ?_
  refine wl_y (y_move rfl) rfl ?_
  refine wl_call Try.func32 rfl rfl rfl (Fnum_any 9 _ (by omega)) rfl ?_
  rintro e w1 ⟨c1, rfl, F1, ex⟩
  refine ⟨_, rfl, ?_⟩
  replace HA := HA.ext ex
  have E1 := ex
  refine wl_call Try.func33 rfl rfl rfl (fbytes_any F1 _) rfl ?_
  rintro e w2 ⟨g2, rfl, hg2, B2, ex⟩
  refine ⟨_, rfl, ?_⟩
  replace HA := HA.ext ex
  have E2 := E1.ext ex; have H2 := bs_blk' B2 (Fp.le_length 32 _)
  refine wl_call Try.func31 rfl rfl rfl (dhmul_any A _ n c 32 32 xs (Fp.le 32 9) _ HA H2) rfl ?_
  rintro e w3 ⟨A3, k3, c3, rfl, H3, hf, ex⟩
  refine ⟨_, rfl, ?_⟩
  replace HA := HA.ext ex
  have E3 := E2.ext ex; have hs := E2.size
  refine wl_y (y_extract rfl rfl) rfl ?_
  refine wl_y (y_extract rfl rfl) rfl ?_
  refine wl_y (y_assign rfl) rfl ?_
  refine wl_y (y_assign rfl) rfl ?_
  refine wl_nil ?_
  refine wq_then_norm (hK2 ?_)
  refine wc_ret ?_
  refine hret rfl rfl ?_
  exact ⟨A3, k3, c3, rfl, H3, fun b o h => by have := hf b o h; omega, E3⟩
theorem dhshared_any (A B : Option Addr) (n c m d : Nat) (xs ys : List UInt8) (w : World) (HA : Bs w A n xs) (HB : Bs w B m ys) :
    Calls Try.prog 16 #[.slice A n c, .slice B m d] w (RetB w (dhS xs ys)) := by
  refine vc_enter2 23 Try.func16 rfl rfl rfl rfl ?_
  intro Q hret
  refine wc_seq ?_; intro K1 hK1
  refine wc_region ?_
  refine wl_y (y_assign rfl) rfl ?_
  refine wl_y (y_assign rfl) rfl ?_
  refine wl_nil ?_
  refine wq_then_norm (hK1 ?_)
  refine wc_seq ?_; intro K2 hK2
  refine wc_region ?_
  refine wl_y (y_move rfl) rfl ?_
  refine wl_y (y_move rfl) rfl ?_
  refine wl_call Try.func31 rfl rfl rfl (dhmul_any A B n c m d xs ys _ HA HB) rfl ?_
  rintro e w1 ⟨A1, k1, c1, rfl, H1, hf, ex⟩
  refine ⟨_, rfl, ?_⟩
  have E1 := ex; have hl1 := H1.1; have hk : k1 ≤ 32 := by rw [← hl1]; unfold dhM; split <;> (try split) <;> simp [Fp.le_length]
  refine wl_y (y_move rfl) rfl ?_
  refine wl_y (y_extract rfl rfl) rfl ?_
  refine wl_y (y_extract rfl rfl) rfl ?_
  refine wl_y (y_assign rfl) rfl ?_
  refine wl_y (y_assign rfl) rfl ?_
  refine wl_nil ?_
  refine wq_then_norm (hK2 ?_)
  refine wc_seq ?_; intro K3 hK3
  refine wc_block ?_
  refine wc_seq ?_; intro K4 hK4
  refine wc_region ?_
  refine wl_y (y_move rfl) rfl ?_
  refine wl_y (y_neq rfl rfl) rfl ?_
  refine wl_y (y_assign rfl) rfl ?_
  refine wl_nil ?_
  refine wq_then_norm (hK4 ?_)
  refine wc_dec rfl (fun hc1 => ?_) (fun hc1 => ?_)
  · skip
    refine wc_seq ?_; intro K5 hK5
    refine wc_region ?_
    refine wl_y (y_move rfl) rfl ?_
    refine wl_y (y_assign rfl) rfl ?_
    refine wl_y (y_assign rfl) rfl ?_
    refine wl_nil ?_
    refine wq_then_norm (hK5 ?_)
    refine wc_ret ?_
    refine wq_blk_ret ?_
    refine wq_then_ret ?_
    refine hret rfl rfl ?_
    exact ⟨none, 0, 0, by rw [dhS, if_pos (by omega)], by rw [dhS, if_pos (by omega)]; exact Bs.nil _ _, fun _ _ h => (by cases h), E1⟩
  · skip
    refine wc_seq ?_; intro K6 hK6
    refine wc_region ?_
    refine wl_y (y_move rfl) rfl ?_
    refine wl_call Try.func36 rfl rfl rfl (containsFunc_any A1 k1 c1 _ 37 [] (fun x => decide (x ≠ 0)) _ _ _ H1 (by omega) Try.func37 rfl rfl (fun x w1 _ => shared1_any x w1)) rfl ?_
    rintro e w2 ⟨rfl, ex⟩
    refine ⟨_, rfl, ?_⟩
    have E2 := E1.ext ex; have H2 := H1.ext ex
    refine wl_y (y_not rfl) rfl ?_
    refine wl_y (y_assign rfl) rfl ?_
    refine wl_nil ?_
    refine wq_then_norm (hK6 ?_)
    refine wc_cond rfl (fun hc2 => ?_) (fun hc2 => ?_)
    · skip
      have hno : ¬ (dhM xs ys).1.any (fun x => decide (x ≠ 0)) = true := by simpa using hc2
      refine wc_seq ?_; intro K7 hK7
      refine wc_region ?_
      refine wl_y (y_assign rfl) rfl ?_
      refine wl_y (y_assign rfl) rfl ?_
      refine wl_nil ?_
      refine wq_then_norm (hK7 ?_)
      refine wc_ret ?_
      refine wq_blk_ret ?_
      refine wq_then_ret ?_
      refine hret rfl rfl ?_
      exact ⟨none, 0, 0, by rw [dhS, if_neg (by omega), if_neg hno]; rfl, by rw [dhS, if_neg (by omega), if_neg hno]; exact Bs.nil _ _, fun _ _ h => (by cases h), E2⟩
    · skip
      have hno : (dhM xs ys).1.any (fun x => decide (x ≠ 0)) = true := by simpa using hc2
      refine wc_skip ?_
      refine wq_blk_norm ?_
      refine wq_then_norm (hK3 ?_)
      refine wc_seq ?_; intro K8 hK8
      refine wc_region ?_
      refine wl_y (y_move rfl) rfl ?_
      refine wl_y (y_assign rfl) rfl ?_
      refine wl_y (y_assign rfl) rfl ?_
      refine wl_nil ?_
      refine wq_then_norm (hK8 ?_)
      refine wc_ret ?_
      refine hret rfl rfl ?_
      exact ⟨A1, k1, c1, by rw [dhS, if_neg (by omega), if_pos hno]; rfl, by rw [dhS, if_neg (by omega), if_pos hno]; exact H2, hf, E2⟩
end Go.Proofs.Ytjllhimhiekchaa

/- The reference's product of a key and a point: what it hands back. -/
namespace Go.Proofs.Ytjllhimhiekchaa
open Go.RowKit
attribute [local irreducible] Y Ef WL WC WK WQ WM OpM WN WF OpN
/-- What holds a slice holds no number. -/
theorem cell_noint {w : World} {g : Nat} {t : TypeId} {A0 A1 : Option Addr} {n0 c0 n1 c1 : Nat} (B : Blk w g t #[.slice A0 n0 c0, .slice A1 n1 c1]) {i : Nat} {k : IntKind} {z : Int} (h : w.cell? ⟨g, i, none⟩ = some (.int k z)) : False := by
  rw [B.cell] at h
  match i, h with
  | 0, h => cases h
  | 1, h => cases h
  | i + 2, h => simp at h
theorem Ns.apart {w w' : World} {k : IntKind} {A : Option Addr} {n g : Nat} {t : TypeId} {xs : List Nat} {A0 A1 : Option Addr} {n0 c0 n1 c1 : Nat} (h : Ns k w A n xs) (B : Blk w g t #[.slice A0 n0 c0, .slice A1 n1 c1]) (cg : Chg w g w') : Ns k w' A n xs := by
  rcases Nat.eq_zero_or_pos n with h0 | h0
  · subst h0
    have : xs = [] := List.length_eq_zero_iff.1 h.1
    subst this
    exact Ns.nil w' A
  · refine h.chg cg fun b off hA e => ?_
    obtain ⟨b', off', x, hA', _, hc⟩ := h.cell h0
    rw [hA] at hA'
    injection hA' with hA'
    injection hA' with hA' _ _
    subst hA'
    rw [e] at hc
    exact cell_noint B hc
theorem Bs.apart {w w' : World} {A : Option Addr} {n g : Nat} {t : TypeId} {xs : List UInt8} {A0 A1 : Option Addr} {n0 c0 n1 c1 : Nat} (h : Bs w A n xs) (B : Blk w g t #[.slice A0 n0 c0, .slice A1 n1 c1]) (cg : Chg w g w') : Bs w' A n xs := by
  rcases Nat.eq_zero_or_pos n with h0 | h0
  · subst h0
    have : xs = [] := List.length_eq_zero_iff.1 h.1
    subst this
    exact Bs.nil w' A
  · refine h.chg cg fun b off hA e => ?_
    obtain ⟨b', off', hA', _, hc⟩ := h.get h0
    rw [hA] at hA'
    injection hA' with hA'
    injection hA' with hA' _ _
    subst hA'
    rw [e] at hc
    exact cell_noint B hc
end Go.Proofs.Ytjllhimhiekchaa

/- The laws of layer 7: alive, DhMuls: they answer true whatever they are given. -/
namespace Go.Proofs.Ytjllhimhiekchaa
open Go.RowKit
attribute [local irreducible] Y Ef WL WC WK WQ WM OpM WN WF OpN
theorem sameE_any (A B : Option Addr) (n m c d : Nat) (xs ys : List UInt8) (w : World) (ha : Bs w A n xs) (hb : Bs w B m ys) (hn : n ≤ 140737488355328) (hm : m ≤ 140737488355328) :
    Calls Try.prog 13 #[.slice A n c, .slice B m d] w fun e w' => e = .returned (.bool (decide (xs = ys))) ∧ Ext w w' :=
  (same_any A B n m c d xs ys w ha hb hn hm).mono fun _ _ ⟨h, k, hk⟩ => ⟨h, hk ▸ Ext.drewN w k⟩
end Go.Proofs.Ytjllhimhiekchaa

namespace Go.Proofs.Ytjllhimhiekchaa
open Go.RowKit
attribute [local irreducible] Y Ef WL WC WK WQ WM OpM WN WF OpN
theorem dhM_ok {xs : List UInt8} {u : Fp.F} (hx : xs.length = 32) : dhM xs (Fp.le 32 u.val) = (Fp.le 32 (dhMul (Fp.num (clampB xs)) u).val, 0) := by
  rw [dhM, if_neg (by omega), if_neg (by rw [Fp.le_length]; omega), Ed.ofB_le]
theorem nine_val : Fp.le 32 9 = Fp.le 32 (Fp.of 9).val := rfl
end Go.Proofs.Ytjllhimhiekchaa
