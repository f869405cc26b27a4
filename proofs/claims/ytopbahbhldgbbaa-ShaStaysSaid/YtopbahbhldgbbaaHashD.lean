/- sha's running digest among other blocks; its Sum is the digest of all that was written; the law ShaParts. -/
import Derived.Test.YtopbahbhldgbbaaHashC
import Derived.Test.YtopbahbhldgbbaaAlive2
namespace Go.Proofs.Ytopbahbhldgbbaa
open Go.RowKit
theorem Blk.upd {w w' : World} {g b : Nat} {A : Option Addr} {t : TypeId} {cs : Array Value} (h : Blk w b t cs) (k : Upd w w' g A) (hb : b ≠ g) (hA : ∀ o, A ≠ some ⟨b, o, none⟩) : Blk w' b t cs := (k.block b h.lt hb hA).trans h
theorem Ext.upd {w0 w w' : World} {g : Nat} {A : Option Addr} (h : Ext w0 w) (k : Upd w w' g A) (hg : w0.heap.size ≤ g) (hA : ∀ b o, A = some ⟨b, o, none⟩ → w0.heap.size ≤ b) : Ext w0 w' :=
  ⟨k.os.trans h.os, k.tape.trans h.tape, k.output.trans h.output, Nat.le_trans h.size k.size, fun i hi => (k.block i (Nat.lt_of_lt_of_le hi h.size) (by omega) (fun o e => by have := hA i o e; omega)).trans (h.block i hi)⟩
theorem Row.same {w w' : World} {base : Nat} {e : TypeId} {B : Option Addr} {n c : Nat} {xs : List Value} (h : Row w base e B n c xs) (k : ∀ b o, B = some ⟨b, o, none⟩ → b < w.heap.size → w'.heap[b]? = w.heap[b]?) : Row w' base e B n c xs := by
  refine ⟨h.1, ?_⟩
  rcases h.2 with hv | ⟨g, cap, cur, hv, hb, hg, hr⟩
  · exact .inl hv
  · injection hv with h1 h2 h3
    exact .inr ⟨g, cap, cur, by rw [h1, h2, h3], hb, (k g 0 h1 (Array.getElem?_eq_some_iff.1 hg).1).trans hg, hr⟩
theorem Row.upd {w w' : World} {g base : Nat} {e : TypeId} {A B : Option Addr} {n c : Nat} {xs : List Value} (h : Row w base e B n c xs) (k : Upd w w' g A) (hb : ∀ o, B ≠ some ⟨g, o, none⟩) (hd : Dj A B) : Row w' base e B n c xs :=
  h.same fun b o hB hl => k.block b hl (fun e => hb o (e ▸ hB)) (fun o' hA => hd b o' b o hA hB rfl)
theorem HashS.same {w w' : World} {base gh m c : Nat} {A : Option Addr} {T : List UInt8} (h : HashS w base gh A m c T) (k1 : w'.heap[gh]? = w.heap[gh]?) (k2 : ∀ b o, A = some ⟨b, o, none⟩ → b < w.heap.size → w'.heap[b]? = w.heap[b]?) : HashS w' base gh A m c T :=
  ⟨k1.trans h.blk, h.off.same k2, h.far, h.at'⟩
theorem HashS.ext {w w' : World} {base gh m c : Nat} {A : Option Addr} {T : List UInt8} (h : HashS w base gh A m c T) (k : Ext w w') : HashS w' base gh A m c T :=
  h.same (k.block gh h.blk.lt) fun b _ _ hb => k.block b hb
theorem HashS.chg {w w' : World} {base gh m c g : Nat} {A : Option Addr} {T : List UInt8} (h : HashS w base gh A m c T) (k : Chg w g w') (hg : gh ≠ g) (hA : ∀ o, A ≠ some ⟨g, o, none⟩) : HashS w' base gh A m c T :=
  h.same (k.block gh h.blk.lt (fun e => hg (by injection e))) fun b o hB hb => k.block b hb (fun e => by injection e with e; subst e; exact hA o hB)
theorem HashS.own {w w' : World} {base gh m c n' c' : Nat} {A B : Option Addr} {T : List UInt8} (h : HashS w base gh A m c T) (k : w.grownBy w' (Value.slice B n' c').ownBlock) (hs : ∀ b o s, B = some ⟨b, o, s⟩ → s = none) (hg : ∀ o, B ≠ some ⟨gh, o, none⟩) (hd : Dj A B) : HashS w' base gh A m c T :=
  h.same (k.block gh h.blk.lt (fun e => own_no hs hg e.symm)) fun b o hB hb => k.block b hb (fun e => own_no hs (fun o' hB' => hd b o b o' hB hB' rfl) e.symm)
theorem Off.ge {w : World} {base : Nat} {e : TypeId} {A : Option Addr} {n c : Nat} {xs : List Value} (h : Off w base e A n c xs) (b o : Nat) (hA : A = some ⟨b, o, none⟩) : base ≤ b ∧ b < w.heap.size := by
  rcases h.2 with ⟨hv, _⟩ | ⟨g, off, cur, hv, hb, hg, _⟩
  · rw [hv] at hA; cases hA
  · rw [hv] at hA; injection hA with hA; injection hA with h1 _ _; subst h1; exact ⟨hb, (Array.getElem?_eq_some_iff.1 hg).1⟩
theorem blocks_on (s : Sha.S8) (l : List UInt8) (k : Nat) : ∀ j, Sha.blocks (Sha.blocks s l k) (l.drop (64 * k)) j = Sha.blocks s l (k + j)
  | 0 => rfl
  | j + 1 => by
    show Sha.step (Sha.blocks (Sha.blocks s l k) (l.drop (64 * k)) j) _ = Sha.step (Sha.blocks s l (k + j)) _
    rw [blocks_on s l k j, List.drop_drop, show 64 * k + 64 * j = 64 * (k + j) from by omega]
    rfl
theorem sum_parts (T : List UInt8) (m : Nat) (hm : T.length - 64 * (T.length / 64) = m) :
    (Sha.blocks (Sha.blocks Sha.IV T (T.length / 64)) (T.drop (64 * (T.length / 64)) ++ Sha.pad T.length) ((m + (9 + Sha.zeros T.length)) / 64)).bytes = Sha.sum T := by
  unfold Sha.sum
  have hp : (Sha.pad T.length).length = 9 + Sha.zeros T.length := Sha.pad_length _
  rw [← List.drop_append_of_le_length (by omega), ← blocks_append Sha.IV T (Sha.pad T.length) _ (by omega), blocks_on, List.length_append, hp]
  congr 2
  omega
attribute [local irreducible] Y Ef WL WC WK WQ WM OpM WN WF OpN
theorem hsumS (base gh : Nat) (A : Option Addr) (m c : Nat) (T : List UInt8) (w : World) (H : HashS w base gh A m c T) (hT : T.length ≤ 1000000) :
    Calls Try.prog 15 #[.pointer (some ⟨gh, 0, none⟩)] w fun e w' => ∃ A' c', e = .returned (.slice A' 32 c') ∧ Row w' w.heap.size 5 A' 32 c' ((Sha.sum T).map bv) ∧ Ext w w' := by
  have hm := H.off.1
  rw [List.length_map, List.length_drop] at hm
  refine (hsum_any gh _ A m c T.length _ w (Sha.blocks_ok Sha.IV_ok _ _) H.blk H.off.bs (by omega) hT (by omega)).mono ?_
  rintro e w' ⟨A', c', rfl, R, E⟩
  rw [sum_parts T m hm] at R
  exact ⟨A', c', rfl, R, E⟩
theorem hsame_any (A B : Option Addr) (n m c d : Nat) (xs ys : List UInt8) (w : World) (ha : Bs w A n xs) (hb : Bs w B m ys) (hn : n ≤ 140737488355328) (hm : m ≤ 140737488355328) :
    Calls Try.prog 14 #[.slice A n c, .slice B m d] w fun e w' => e = .returned (.bool (decide (xs = ys))) ∧ Ext w w' :=
  (same_any A B n m c d xs ys w ha hb hn hm).mono fun _ _ ⟨h, k, hk⟩ => ⟨h, hk ▸ Ext.drewN w k⟩
theorem hnewS (base : Nat) (w : World) (hb : base ≤ w.heap.size) : Calls Try.prog 11 #[] w fun e w' => ∃ g, e = .returned (.pointer (some ⟨g, 0, none⟩)) ∧ w.heap.size ≤ g ∧ g < w'.heap.size ∧ HashS w' base g none 0 0 [] ∧ Ext w w' :=
  (hnew_any w).mono fun _ _ ⟨g, h1, h2, h3, h4⟩ => ⟨g, h1, h2, h3.lt, ⟨h3, ⟨rfl, .inl ⟨rfl, rfl, rfl⟩⟩, fun o => by simp, Nat.le_trans hb h2⟩, h4⟩
/-- What an append leaves: the row lies near the old one. -/
theorem near_app {w : World} {n c n' c' : Nat} {A A' : Option Addr} (hs : ∀ b o s, A = some ⟨b, o, s⟩ → s = none) (h : (Value.slice A' n' c').ownBlock = (Value.slice A n c).ownBlock ∨ (Value.slice A' n' c').ownBlock = some w.heap.size) : Near w.heap.size A A' :=
  near_own hs (h.imp id fun h k hk => by rw [h] at hk; injection hk with hk; omega)
theorem Dj.near {z : Nat} {A B B' : Option Addr} (h : Dj A B) (k : Near z B B') (hA : ∀ b o, A = some ⟨b, o, none⟩ → b < z) : Dj A B' := fun b o b' o' h1 h2 e => by
  rcases k b' o' h2 with ⟨o2, h3⟩ | h3
  · exact h b o b' o2 h1 h3 e
  · have := hA b o h1; omega
theorem far_near {z g : Nat} {B B' : Option Addr} (h : ∀ o, B ≠ some ⟨g, o, none⟩) (k : Near z B B') (hg : g < z) : ∀ o, B' ≠ some ⟨g, o, none⟩ := fun o e => by
  rcases k g o e with ⟨o2, h3⟩ | h3
  · exact h o2 h3
  · omega
theorem Bs.old {w : World} {B : Option Addr} {n g : Nat} {ys : List UInt8} (h : Bs w B n ys) (hg : w.heap.size ≤ g) (hn : 0 < n) : ∀ o, B ≠ some ⟨g, o, none⟩ := fun o e => by
  obtain ⟨b, off, hA, hb, _⟩ := h.get hn
  rw [e] at hA
  injection hA with hA; injection hA with h1 _ _
  omega
theorem Row.lt' {w : World} {base : Nat} {e : TypeId} {A : Option Addr} {n c : Nat} {xs : List Value} (h : Row w base e A n c xs) (b o : Nat) (hA : A = some ⟨b, o, none⟩) : b < w.heap.size := by subst hA; exact (Row.lt h).2
set_option maxHeartbeats 1000000 in
theorem shaParts_law (A : Option Addr) (n c : Nat) (xss : List (List UInt8)) (w : World) (HA : Bss w A n xss) (hn : n ≤ maxLen) :
    Calls Try.prog 3 #[.slice A n c] w fun e w' => e = .returned (.bool true) ∧ Below w.heap.size w w' := by
  unfold maxLen at hn
  have E := Ext.refl w
  have hlx := HA.1
  have HA0 := HA
  refine vc_enter1 79 Try.func3 rfl rfl rfl rfl ?_
  intro Q hret
  refine wc_seq ?_; intro K1 hK1
  refine wc_region ?_
  refine wl_y (y_assign rfl) rfl ?_
  refine wl_nil ?_
  refine wq_then_norm (hK1 ?_)
  refine wc_seq ?_; intro K2 hK2
  refine wc_seq ?_; intro K3 hK3
  refine wc_region ?_
  refine wl_call Try.func10 rfl rfl rfl (alive2_any _) rfl ?_
  rintro e w1 ⟨rfl, ex⟩
  refine ⟨_, rfl, ?_⟩
  replace E := E.ext ex
  refine wl_y (y_not rfl) rfl ?_
  refine wl_nil ?_
  refine wq_then_norm (hK3 ?_)
  refine wc_false rfl rfl ?_
  refine wc_skip ?_
  refine wq_then_norm (hK2 ?_)
  refine wc_seq ?_; intro K4 hK4
  refine wc_seq ?_; intro K5 hK5
  refine wc_region ?_
  refine wl_y (y_move rfl) rfl ?_
  refine wl_y (y_len_slice rfl Try.underlying22) rfl ?_
  refine wl_y (y_gtr rfl rfl) rfl ?_
  refine wl_nil ?_
  refine wq_then_norm (hK5 ?_)
  refine wc_dec rfl (fun hc2 => ?_) (fun hc2 => ?_)
  · skip
    refine wc_seq ?_; intro K6 hK6
    refine wc_region ?_
    refine wl_y (y_assign rfl) rfl ?_
    refine wl_nil ?_
    refine wq_then_norm (hK6 ?_)
    refine wc_ret ?_
    refine wq_then_ret ?_
    refine hret rfl ?_
    exact ⟨rfl, E⟩
  · skip
    refine wc_skip ?_
    refine wq_then_norm (hK4 ?_)
    refine wc_seq ?_; intro K7 hK7
    refine wc_region ?_
    refine wl_y (y_assign rfl) rfl ?_
    refine wl_nil ?_
    refine wq_then_norm (hK7 ?_)
    refine wc_seq ?_; intro K8 hK8
    refine wc_region ?_
    have hs1 := E.size
    refine wl_call Try.func11 rfl rfl rfl (hnewS w.heap.size _ hs1) rfl ?_
    rintro e w2 ⟨gh, rfl, hg, hgl, H, ex⟩
    refine ⟨_, rfl, ?_⟩
    replace E := E.ext ex
    have hgw : w.heap.size ≤ gh := Nat.le_trans hs1 hg; have R : Row w2 w.heap.size 5 none 0 0 (([] : List UInt8).map bv) := Row.empty _ _ _
    refine wl_y (y_assign rfl) rfl ?_
    refine wl_nil ?_
    refine wq_then_norm (hK8 ?_)
    refine wc_seq ?_; intro K9 hK9
    refine wc_seq ?_; intro K10 hK10
    refine wc_region ?_
    refine wl_y (y_assign rfl) rfl ?_
    refine wl_nil ?_
    refine wq_then_norm (hK10 ?_)
    refine wc_block ?_
    refine wc_loop (fun n' L wr => ∃ (i nT cl m c2 : Nat) (AL A2 : Option Addr) (T : List UInt8), L = [(0, .slice A n c), (3, .slice AL nT cl), (4, .pointer (some ⟨gh, 0, none⟩)), (5, .int .i64 (i : Int))] ∧ n' = n - i ∧ (i ≤ n ∧ Ext w wr ∧ Row wr w.heap.size 5 AL nT cl (T.map bv) ∧ HashS wr w.heap.size gh A2 m c2 T ∧ Dj A2 AL ∧ (∀ o, AL ≠ some ⟨gh, o, none⟩) ∧ T = (xss.take i).flatten ∧ nT ≤ 300 * i)) _ _ ⟨0, 0, 0, 0, 0, none, none, [], rfl, rfl, by omega, E, R, H, Dj.none_l _, (fun o => by simp), rfl, (by omega)⟩ ⟨rfl, rfl, rfl, (by first | rfl | exact congrArg some (int_val (by omega))), trivial⟩ ?_
    rintro KL1 n' L wr ⟨i, nT, cl, m, c2, AL, A2, T, rfl, rfl, hi, E, R, H, hd, hf, hT, hTl⟩ hL1
    refine wc_seq ?_; intro K11 hK11
    refine wc_seq ?_; intro K12 hK12
    refine wc_region ?_
    refine wl_y (y_move rfl) rfl ?_
    refine wl_y (y_move rfl) rfl ?_
    refine wl_y (y_len_slice rfl Try.underlying22) rfl ?_
    refine wl_y (y_lss rfl rfl) rfl ?_
    refine wl_nil ?_
    refine wq_then_norm (hK12 ?_)
    refine wc_dec rfl (fun hc3 => ?_) (fun hc3 => ?_)
    · skip
      refine wc_skip ?_
      refine wq_then_norm (hK11 ?_)
      refine wc_seq ?_; intro K13 hK13
      refine wc_block ?_
      refine wc_seq ?_; intro K14 hK14
      refine wc_seq ?_; intro K15 hK15
      obtain ⟨q, off, B, m3, c3, ys, rfl, hys, hcell0, HB0⟩ := HA0.get (k := i) (by omega)
      have hcell := (E.cell (cell_lt hcell0)).trans hcell0
      have hyl := HB0.1
      have hTn := R.len
      rw [List.length_map] at hTn
      refine wc_region ?_
      refine wl_y (y_move rfl) rfl ?_
      refine wl_y (y_move rfl) rfl ?_
      refine wl_y (y_ixs1 rfl rfl Try.underlying22 (by kernel_rfl) rfl (by omega)) rfl ?_
      refine wl_y (y_load1 rfl Try.underlying24 rfl hcell) rfl ?_
      refine wl_y (y_len_slice rfl Try.underlying24) rfl ?_
      refine wl_y (y_gtr rfl rfl) rfl ?_
      refine wl_nil ?_
      refine wq_then_norm (hK15 ?_)
      refine wc_dec rfl (fun hc4 => ?_) (fun hc4 => ?_)
      · skip
        refine wc_seq ?_; intro K16 hK16
        refine wc_region ?_
        refine wl_y (y_assign rfl) rfl ?_
        refine wl_nil ?_
        refine wq_then_norm (hK16 ?_)
        refine wc_ret ?_
        refine wq_then_ret ?_
        refine wq_blk_ret ?_
        refine wq_then_ret ?_
        refine wq_then_ret ?_
        refine wq_blk_ret ?_
        refine wq_then_ret ?_
        refine hret rfl ?_
        exact ⟨rfl, E⟩
      · skip
        refine wc_skip ?_
        refine wq_then_norm (hK14 ?_)
        refine wc_seq ?_; intro K17 hK17
        refine wc_region ?_
        refine wl_y (y_move rfl) rfl ?_
        refine wl_y (y_move rfl) rfl ?_
        refine wl_y (y_move rfl) rfl ?_
        refine wl_y (y_ixs1 rfl rfl Try.underlying22 (by kernel_rfl) rfl (by omega)) rfl ?_
        refine wl_y (y_load1 rfl Try.underlying24 rfl hcell) rfl ?_
        refine wl_ef (ef_app rfl rfl eltB R (HB0.wk E).2 (by rw [List.length_map]; exact hyl) (by intro u hu; exact bv_one u hu) (by omega) (by omega) E.size) rfl ?_
        rintro _ w3 ⟨AL3, cl3, rfl, R3, be, gr, hl3⟩
        have hns : ∀ b o s, AL = some ⟨b, o, s⟩ → s = none := fun b o s h => R.none_s b o s h
        have N3 := near_app hns hl3
        have H3 := H.own gr hns hf hd
        have hd3 := hd.near N3 (fun b o h => (H.off.ge b o h).2)
        have hf3 := far_near hf N3 H.blk.lt
        have E3 := E.trans be
        have hcell3 := (E3.cell (cell_lt hcell0)).trans hcell0
        replace R3 := R3.cat 
        refine wl_y (y_assign rfl) rfl ?_
        refine wl_nil ?_
        refine wq_then_norm (hK17 ?_)
        refine wc_seq ?_; intro K18 hK18
        refine wc_region ?_
        refine wl_y (y_move rfl) rfl ?_
        refine wl_y (y_move rfl) rfl ?_
        refine wl_y (y_move rfl) rfl ?_
        refine wl_y (y_ixs1 rfl rfl Try.underlying22 (by kernel_rfl) rfl (by omega)) rfl ?_
        refine wl_y (y_load1 rfl Try.underlying24 rfl hcell3) rfl ?_
        refine wl_call Try.func12 rfl rfl rfl (hwrite_any w.heap.size gh A2 B m c2 m3 c3 T ys _ H3 (HB0.wk E3) E3.size (by omega) (fun h => HB0.old hgw h)) rfl ?_
        rintro e w4 ⟨rfl, A4, m4, c4, H4, U, N4⟩
        refine ⟨_, rfl, ?_⟩
        have E4 := Ext.upd E3 U hgw (fun b o h => (H3.off.ge b o h).1)
        have R4 := R3.upd U hf3 hd3
        have hd4 := (hd3.symm.near N4 (fun b o h => R3.lt' b o h)).symm
        have hTy : (T ++ ys).length = nT + m3 := by rw [List.length_append]; omega
        have hTn' : T ++ ys = (xss.take (i + 1)).flatten := by rw [flatten_take_succ _ _ (by omega), hT, hys.out]
        have hgl4 := H4.blk.lt; have hA4 := H4.off.ge
        refine wl_nil ?_
        refine wq_then_norm (hK18 ?_)
        refine wc_seq ?_; intro K19 hK19
        refine wc_region ?_
        refine wl_y (y_move rfl) rfl ?_
        refine wl_call Try.func13 rfl rfl rfl (sum_any AL3 (nT + m3) cl3 (T ++ ys) _ R4.bs (by omega)) rfl ?_
        rintro e w5 ⟨rfl, ex⟩
        refine ⟨_, rfl, ?_⟩
        have E5 := E4.ext ex; have R5 := R4.ext ex; have H5 := H4.ext ex; have F := Ext.refl w5; have hz5 := ex.size
        refine wl_ef (ef_alloc (Z := bys (zbs 32)) (by kernel_rfl)) rfl ?_
        rintro _ w6 ⟨g6, rfl, B6, hg6, ex⟩
        replace F := F.ext ex
        refine wl_ef (ef_storeW rfl rfl (by rw [bys_size, Sha.sum_length]; kernel_rfl) B6 (by rw [bys_size, bys_size, Sha.sum_length]; rfl) (bys_one _)) rfl ?_
        rintro _ w7 ⟨rfl, B7, cg⟩
        replace F := F.chg cg hg6; have E := E5.ext F; have R := R5.ext F; have H := H5.ext F; have D := bs_blk' B7 (Sha.sum_length _)
        refine wl_nil ?_
        refine wq_then_norm (hK19 ?_)
        refine wc_seq ?_; intro K20 hK20
        refine wc_draw (by kernel_rfl) 12 rfl ?_; intro wd15 ex hd15
        replace E := E.ext ex
        replace R := R.ext ex
        replace H := H.ext ex
        replace D := D.ext ex
        refine wm_y 0 rfl (by kernel_rfl) (y_move rfl) rfl ?_
        refine wm_y 2 rfl (by kernel_rfl) (y_cutarr (s := 1) rfl Try.underlying28 (by kernel_rfl)) rfl ?_
        refine wm_one 1 (by kernel_rfl) ?_; refine om_call rfl Try.func15 rfl rfl rfl (hsumS w.heap.size gh A4 m4 c4 (T ++ ys) _ H (by omega)) rfl ?_
        rintro e w8 ⟨A8, c8, rfl, R8, ex⟩
        refine ⟨_, rfl, .inr ex, ?_⟩
        replace E := E.ext ex
        replace R := R.ext ex
        replace H := H.ext ex
        replace D := D.ext ex
        have S8 := R8.bs
        refine wm_one 3 (by kernel_rfl) ?_; refine om_call rfl Try.func14 rfl rfl rfl (hsame_any _ _ 32 32 _ _ _ _ _ S8 D (by omega) (by omega)) rfl ?_
        rintro e w9 ⟨rfl, ex⟩
        refine ⟨_, rfl, .inr ex, ?_⟩
        replace E := E.ext ex
        replace R := R.ext ex
        replace H := H.ext ex
        replace D := D.ext ex
        replace S8 := S8.ext ex
        rw [decide_eq_true rfl]
        refine wm_y 4 rfl (by kernel_rfl) (y_not rfl) rfl ?_
        refine wm_y 5 rfl (by kernel_rfl) (y_move rfl) rfl ?_
        refine wm_gy 6 rfl (by kernel_rfl) 46 rfl rfl (y_move rfl) rfl ?_
        refine wm_gy 8 rfl (by kernel_rfl) 46 rfl rfl (y_move rfl) rfl ?_
        refine wm_gy 9 rfl (by kernel_rfl) 46 rfl rfl (y_len_slice rfl Try.underlying24) rfl ?_
        refine wm_one 7 (by kernel_rfl) ?_; refine om_gcall rfl 46 rfl rfl Try.func16 rfl rfl rfl (hlen_any gh _ A4 m4 c4 _ _ H.blk) rfl ?_
        rintro e w10 ⟨rfl, ex⟩
        refine ⟨_, rfl, .inr ex, ?_⟩
        replace E := E.ext ex
        replace R := R.ext ex
        replace H := H.ext ex
        replace D := D.ext ex
        replace S8 := S8.ext ex
        skip
        refine wm_gy 10 rfl (by kernel_rfl) 46 rfl rfl (Y.as (y_neq rfl rfl) (congrArg Value.bool (decide_eq_false (by omega)))) rfl ?_
        refine wm_y 11 rfl (by kernel_rfl) (y_pickf rfl rfl) rfl ?_
        refine wm_done (by kernel_rfl) ?_
        refine wq_nop ?_
        refine wq_then_norm (hK20 ?_)
        refine wc_false rfl rfl ?_
        refine wc_skip ?_
        refine wq_blk_norm ?_
        refine wq_then_norm (hK13 ?_)
        refine wc_region ?_
        refine wl_y (y_move rfl) rfl ?_
        refine wl_y (y_add rfl rfl (i64_ok (by omega) (by omega))) rfl ?_
        refine wl_y (y_assign rfl) rfl ?_
        refine wl_nil ?_
        refine wq_then_norm ?_
        refine hL1 _ _ ⟨i + 1, nT + m3, cl3, m4, c4, AL3, A4, T ++ ys, rfl, rfl, by omega, E, R, H, hd4, hf3, hTn', (by omega)⟩ (by omega) ⟨rfl, rfl, rfl, (by first | rfl | exact congrArg some (int_val (by omega))), trivial⟩
    · skip
      refine wc_exit ?_
      refine wq_then_exit ?_
      refine wq_then_exit ?_
      refine wq_blk_hit ?_
      refine wq_then_norm (hK9 ?_)
      refine wc_seq ?_; intro K21 hK21
      refine wc_region ?_
      refine wl_y (y_move rfl) rfl ?_
      obtain rfl : i = n := by omega
      obtain rfl : T = xss.flatten := by rw [hT, ← hlx, List.take_length]
      have hTn := R.len
      rw [List.length_map] at hTn
      have HA := HA0.ext E
      refine wl_call Try.func13 rfl rfl rfl (sum_any AL nT cl xss.flatten _ R.bs (by omega)) rfl ?_
      rintro e w5 ⟨rfl, ex⟩
      refine ⟨_, rfl, ?_⟩
      replace E := E.ext ex
      have E5 := E; have F := Ext.refl w5
      refine wl_ef (ef_alloc (Z := bys (zbs 32)) (by kernel_rfl)) rfl ?_
      rintro _ w6 ⟨g6, rfl, B6, hg6, ex⟩
      replace F := F.ext ex
      refine wl_ef (ef_storeW rfl rfl (by rw [bys_size, Sha.sum_length]; kernel_rfl) B6 (by rw [bys_size, bys_size, Sha.sum_length]; rfl) (bys_one _)) rfl ?_
      rintro _ w7 ⟨rfl, B7, cg⟩
      replace F := F.chg cg hg6; replace E := E5.ext F; have HA := HA0.ext E; have D := bs_blk' B7 (Sha.sum_length _)
      refine wl_nil ?_
      refine wq_then_norm (hK21 ?_)
      refine wc_seq ?_; intro K22 hK22
      refine wc_region ?_
      refine wl_y (y_assign rfl) rfl ?_
      refine wl_nil ?_
      refine wq_then_norm (hK22 ?_)
      refine wc_seq ?_; intro K23 hK23
      refine wc_region ?_
      refine wl_y (y_move rfl) rfl ?_
      refine wl_y (y_move rfl) rfl ?_
      refine wl_call Try.func12 rfl rfl rfl (hwrite_nil _ _ _ _) rfl ?_
      rintro e w8 ⟨rfl, ex⟩
      refine ⟨_, rfl, ?_⟩
      replace E := E.ext ex
      replace HA := HA.ext ex
      replace D := D.ext ex
      skip
      refine wl_nil ?_
      refine wq_then_norm (hK23 ?_)
      refine wc_seq ?_; intro K24 hK24
      refine wc_draw (by kernel_rfl) 22 rfl ?_; intro wd20 ex hd20
      replace E := E.ext ex
      replace HA := HA.ext ex
      replace D := D.ext ex
      refine wm_y 0 rfl (by kernel_rfl) (y_move rfl) rfl ?_
      refine wm_y 2 rfl (by kernel_rfl) (y_cutarr (s := 1) rfl Try.underlying28 (by kernel_rfl)) rfl ?_
      refine wm_one 1 (by kernel_rfl) ?_; refine om_call rfl Try.func17 rfl rfl rfl (of_any A i c xss _ HA (by omega) (by omega)) rfl ?_
      rintro e w9 ⟨g9, rfl, hg9, B9, ex⟩
      refine ⟨_, rfl, .inr ex, ?_⟩
      replace E := E.ext ex
      replace HA := HA.ext ex
      replace D := D.ext ex
      have S9 := bs_blk' B9 (Sha.sum_length _)
      refine wm_one 3 (by kernel_rfl) ?_; refine om_call rfl Try.func14 rfl rfl rfl (hsame_any _ _ 32 32 _ _ _ _ _ S9 D (by omega) (by omega)) rfl ?_
      rintro e w10 ⟨rfl, ex⟩
      refine ⟨_, rfl, .inr ex, ?_⟩
      replace E := E.ext ex
      replace HA := HA.ext ex
      replace D := D.ext ex
      replace S9 := S9.ext ex
      rw [decide_eq_true rfl]
      refine wm_y 4 rfl (by kernel_rfl) (y_move rfl) rfl ?_
      refine wm_gy 5 rfl (by kernel_rfl) 62 rfl rfl (y_move rfl) rfl ?_
      refine wm_one 6 (by kernel_rfl) ?_; refine om_gcall rfl 62 rfl rfl Try.func15 rfl rfl rfl (hsum_nil _) rfl ?_
      rintro e w11 ⟨g11, rfl, hg11, B11, ex⟩
      refine ⟨_, rfl, .inr ex, ?_⟩
      replace E := E.ext ex
      replace HA := HA.ext ex
      replace D := D.ext ex
      replace S9 := S9.ext ex
      have S11 := bs_blk' B11 (Sha.sum_length _)
      refine wm_one 7 (by kernel_rfl) ?_; refine om_gcall rfl 62 rfl rfl Try.func17 rfl rfl rfl (of_any none 0 0 [] _ (bss_nil _) (by omega) (by simp)) rfl ?_
      rintro e w12 ⟨g12, rfl, hg12, B12, ex⟩
      refine ⟨_, rfl, .inr ex, ?_⟩
      replace E := E.ext ex
      replace HA := HA.ext ex
      replace D := D.ext ex
      replace S9 := S9.ext ex
      replace S11 := S11.ext ex
      have S12 : Bs w12 (some ⟨g12, 0, none⟩) 32 (Sha.sum []) := bs_blk' B12 (Sha.sum_length _)
      refine wm_one 8 (by kernel_rfl) ?_; refine om_gcall rfl 62 rfl rfl Try.func14 rfl rfl rfl (hsame_any _ _ 32 32 _ _ _ _ _ S11 S12 (by omega) (by omega)) rfl ?_
      rintro e w13 ⟨rfl, ex⟩
      refine ⟨_, rfl, .inr ex, ?_⟩
      replace E := E.ext ex
      replace HA := HA.ext ex
      replace D := D.ext ex
      replace S9 := S9.ext ex
      replace S11 := S11.ext ex
      replace S12 := S12.ext ex
      rw [decide_eq_true rfl]
      refine wm_y 9 rfl (by kernel_rfl) (y_pickt rfl rfl) rfl ?_
      refine wm_y 10 rfl (by kernel_rfl) (y_move rfl) rfl ?_
      refine wm_gy 11 rfl (by kernel_rfl) 68 rfl rfl (y_move rfl) rfl ?_
      refine wm_one 12 (by kernel_rfl) ?_; refine om_gcall rfl 68 rfl rfl Try.func16 rfl rfl rfl (hlen_nil _) rfl ?_
      rintro e w14 ⟨rfl, ex⟩
      refine ⟨_, rfl, .inr ex, ?_⟩
      replace E := E.ext ex
      replace HA := HA.ext ex
      replace D := D.ext ex
      replace S9 := S9.ext ex
      replace S11 := S11.ext ex
      replace S12 := S12.ext ex
      skip
      refine wm_gy 13 rfl (by kernel_rfl) 68 rfl rfl (Y.as (y_eql rfl rfl) (congrArg Value.bool (decide_eq_true rfl))) rfl ?_
      refine wm_y 14 rfl (by kernel_rfl) (y_pickt rfl rfl) rfl ?_
      refine wm_y 15 rfl (by kernel_rfl) (y_move rfl) rfl ?_
      refine wm_one 16 (by kernel_rfl) ?_; refine om_gcall rfl 73 rfl rfl Try.func11 rfl rfl rfl (hnewS 0 _ (Nat.zero_le _)) rfl ?_
      rintro e w15 ⟨g15, rfl, hg15, hgl15, H15, ex⟩
      refine ⟨_, rfl, .inr ex, ?_⟩
      replace E := E.ext ex
      replace HA := HA.ext ex
      replace D := D.ext ex
      replace S9 := S9.ext ex
      replace S11 := S11.ext ex
      replace S12 := S12.ext ex
      skip
      refine wm_one 17 (by kernel_rfl) ?_; refine om_gcall rfl 73 rfl rfl Try.func15 rfl rfl rfl (hsumS 0 g15 none 0 0 [] _ H15 (by simp)) rfl ?_
      rintro e w16 ⟨A16, c16, rfl, R16, ex⟩
      refine ⟨_, rfl, .inr ex, ?_⟩
      replace E := E.ext ex
      replace HA := HA.ext ex
      replace D := D.ext ex
      replace S9 := S9.ext ex
      replace S11 := S11.ext ex
      replace S12 := S12.ext ex
      replace H15 := H15.ext ex
      have S16 := R16.bs
      refine wm_one 18 (by kernel_rfl) ?_; refine om_gcall rfl 73 rfl rfl Try.func17 rfl rfl rfl (of_any none 0 0 [] _ (bss_nil _) (by omega) (by simp)) rfl ?_
      rintro e w17 ⟨g17, rfl, hg17, B17, ex⟩
      refine ⟨_, rfl, .inr ex, ?_⟩
      replace E := E.ext ex
      replace HA := HA.ext ex
      replace D := D.ext ex
      replace S9 := S9.ext ex
      replace S11 := S11.ext ex
      replace S12 := S12.ext ex
      replace H15 := H15.ext ex
      replace S16 := S16.ext ex
      have S17 : Bs w17 (some ⟨g17, 0, none⟩) 32 (Sha.sum []) := bs_blk' B17 (Sha.sum_length _)
      refine wm_one 19 (by kernel_rfl) ?_; refine om_gcall rfl 73 rfl rfl Try.func14 rfl rfl rfl (hsame_any _ _ 32 32 _ _ _ _ _ S16 S17 (by omega) (by omega)) rfl ?_
      rintro e w18 ⟨rfl, ex⟩
      refine ⟨_, rfl, .inr ex, ?_⟩
      replace E := E.ext ex
      replace HA := HA.ext ex
      replace D := D.ext ex
      replace S9 := S9.ext ex
      replace S11 := S11.ext ex
      replace S12 := S12.ext ex
      replace H15 := H15.ext ex
      replace S16 := S16.ext ex
      replace S17 := S17.ext ex
      rw [decide_eq_true rfl]
      refine wm_y 20 rfl (by kernel_rfl) (y_pickt rfl rfl) rfl ?_
      refine wm_y 21 rfl (by kernel_rfl) (y_assign rfl) rfl ?_
      refine wm_done (by kernel_rfl) ?_
      refine wq_nop ?_
      refine wq_then_norm (hK24 ?_)
      refine wc_ret ?_
      refine hret rfl ?_
      exact ⟨rfl, E⟩
end Go.Proofs.Ytopbahbhldgbbaa
