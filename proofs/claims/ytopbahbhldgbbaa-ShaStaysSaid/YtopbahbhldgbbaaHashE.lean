/- The law ShaStays: what becomes of bytes later plays no part for a digest. -/
import Derived.Test.YtopbahbhldgbbaaHashD
namespace Go.Proofs.Ytopbahbhldgbbaa
open Go.RowKit
theorem Row.own {w w' : World} {base n' c' : Nat} {e : TypeId} {A B : Option Addr} {n c : Nat} {xs : List Value} (h : Row w base e B n c xs) (k : w.grownBy w' (Value.slice A n' c').ownBlock) (hs : ∀ b o s, A = some ⟨b, o, s⟩ → s = none) (hd : Dj A B) : Row w' base e B n c xs :=
  h.same fun b o hB hl => k.block b hl (fun e => own_no hs (fun o' hA => hd b o' b o hA hB rfl) e.symm)
theorem Ext.own {w0 w w' : World} {A : Option Addr} {n c : Nat} (h : Ext w0 w) (k : w.grownBy w' (Value.slice A n c).ownBlock) (hs : ∀ b o s, A = some ⟨b, o, s⟩ → s = none) (hA : ∀ b o, A = some ⟨b, o, none⟩ → w0.heap.size ≤ b) : Ext w0 w' :=
  ⟨k.os.trans h.os, k.tape.trans h.tape, k.output.trans h.output, Nat.le_trans h.size k.size, fun i hi => (k.block i (Nat.lt_of_lt_of_le hi h.size) (fun e => own_no hs (fun o e => by have := hA i o e; omega) e.symm)).trans (h.block i hi)⟩
theorem own_chg {w w1 w2 : World} {g o n c : Nat} (h : w.grownBy w1 (Value.slice (some ⟨g, o, none⟩) n c).ownBlock) (k : Chg w1 g w2) : w.grownBy w2 (Value.slice (some ⟨g, o, none⟩) n c).ownBlock :=
  Chg.tr (show Chg w g w1 from h) k
theorem Dj.of {w : World} {base n c : Nat} {e : TypeId} {A B : Option Addr} {xs : List Value} (h : Row w base e A n c xs) (hB : ∀ b o, B = some ⟨b, o, none⟩ → b < base) : Dj A B := fun b o b' o' h1 h2 e => by
  subst h1
  have := (Row.lt h).1
  have := hB b' o' h2
  omega
theorem Row.ge' {w : World} {base n c : Nat} {e : TypeId} {A : Option Addr} {xs : List Value} (h : Row w base e A n c xs) (b o : Nat) (hA : A = some ⟨b, o, none⟩) : base ≤ b := by subst hA; exact (Row.lt h).1
attribute [local irreducible] Y Ef WL WC WK WQ WM OpM WN WF OpN
set_option maxHeartbeats 1000000 in
theorem shaStays_law (A : Option Addr) (n c : Nat) (xs : List UInt8) (B : Option Addr) (m d : Nat) (ys : List UInt8) (z : Int) (w : World) (HA : Bs w A n xs) (hn : n ≤ maxLen) (HB : Bs w B m ys) (hm : m ≤ maxLen) (hz : 0 ≤ z ∧ z ≤ 65535) :
    Calls Try.prog 4 #[.slice A n c, .slice B m d, .int .u16 z] w fun e w' => e = .returned (.bool true) ∧ Below w.heap.size w w' := by
  unfold maxLen at hn hm
  obtain ⟨zn, rfl⟩ : ∃ zn : Nat, z = zn := Int.eq_ofNat_of_zero_le hz.1
  have E := Ext.refl w
  have hxl := HA.1; have hyl := HB.1
  have HA0 := HA; have HB0 := HB
  refine vc_enter1 117 Try.func4 rfl rfl rfl rfl ?_
  intro Q hret
  refine wc_seq ?_; intro K1 hK1
  refine wc_region ?_
  refine wl_y (y_assign rfl) rfl ?_
  refine wl_nil ?_
  refine wq_then_norm (hK1 ?_)
  refine wc_seq ?_; intro K2 hK2
  refine wc_seq ?_; intro K3 hK3
  refine wc_region ?_
  refine wl_call Try.func10 rfl rfl rfl (alive2_any _) rfl ?_
  rintro e w1 ⟨rfl, ex⟩
  refine ⟨_, rfl, ?_⟩
  replace HA := HA.ext ex
  replace HB := HB.ext ex
  replace E := E.ext ex
  refine wl_y (y_not rfl) rfl ?_
  refine wl_nil ?_
  refine wq_then_norm (hK3 ?_)
  refine wc_false rfl rfl ?_
  refine wc_skip ?_
  refine wq_then_norm (hK2 ?_)
  refine wc_seq ?_; intro K4 hK4
  refine wc_seq ?_; intro K5 hK5
  refine wc_region ?_
  refine wl_y (y_move rfl) rfl ?_
  refine wl_y (y_len_slice rfl Try.underlying24) rfl ?_
  refine wl_yask (y_gtr rfl rfl) rfl (fun h1 => ?_) (fun h1 => ?_)
  · skip
    refine wl_y (y_move rfl) rfl ?_
    refine wl_gno 20 rfl rfl rfl rfl ?_
    refine wl_gno 20 rfl rfl rfl rfl ?_
    refine wl_gno 20 rfl rfl rfl rfl ?_
    refine wl_y (y_pickt rfl rfl) rfl ?_
    refine wl_nil ?_
    refine wq_then_norm (hK5 ?_)
    refine wc_true rfl rfl ?_
    refine wc_seq ?_; intro K6 hK6
    refine wc_region ?_
    refine wl_y (y_assign rfl) rfl ?_
    refine wl_nil ?_
    refine wq_then_norm (hK6 ?_)
    refine wc_ret ?_
    refine wq_then_ret ?_
    refine hret rfl ?_
    exact ⟨rfl, E⟩
  · skip
    refine wl_y (y_move rfl) rfl ?_
    refine wl_gy 20 rfl rfl (y_move rfl) rfl ?_
    refine wl_gy 20 rfl rfl (y_len_slice rfl Try.underlying24) rfl ?_
    refine wl_gyask 20 rfl rfl (y_gtr rfl rfl) rfl (fun h2 => ?_) (fun h2 => ?_)
    · skip
      refine wl_y (y_pickf rfl rfl) rfl ?_
      refine wl_nil ?_
      refine wq_then_norm (hK5 ?_)
      refine wc_true rfl rfl ?_
      refine wc_seq ?_; intro K7 hK7
      refine wc_region ?_
      refine wl_y (y_assign rfl) rfl ?_
      refine wl_nil ?_
      refine wq_then_norm (hK7 ?_)
      refine wc_ret ?_
      refine wq_then_ret ?_
      refine hret rfl ?_
      exact ⟨rfl, E⟩
    · skip
      refine wl_y (y_pickf rfl rfl) rfl ?_
      refine wl_nil ?_
      refine wq_then_norm (hK5 ?_)
      refine wc_false rfl rfl ?_
      refine wc_skip ?_
      refine wq_then_norm (hK4 ?_)
      refine wc_seq ?_; intro K8 hK8
      refine wc_region ?_
      have HA1 := HA; have E1 := E
      refine wl_ef (ef_lit (z := .int .u8 0) Try.underlying24 (by kernel_rfl) rfl rfl rfl rfl rfl) rfl ?_
      rintro _ w2 ⟨g2, rfl, B2, hg2, ex⟩
      have x2 := ex; have R2 : Row w2 w1.heap.size 5 (some ⟨g2, 0, none⟩) 0 0 (([] : List UInt8).map bv) := Row.new B2 hg2 rfl (by unfold maxLen; omega)
      refine wl_y (y_move rfl) rfl ?_
      refine wl_ef (ef_app0 rfl rfl eltB R2 (HA.ext x2).2 (by rw [List.length_map, HA.1]) (by intro u hu; exact bv_one u hu) (by omega) (by omega) x2.size) rfl ?_
      rintro _ w3 ⟨AW, cw, rfl, RW, be, gr, hl⟩
      have ex : Ext w1 w3 := x2.trans be
      replace HA := HA.ext ex
      replace HB := HB.ext ex
      replace E := E.ext ex
      refine wl_y (y_assign rfl) rfl ?_
      refine wl_nil ?_
      refine wq_then_norm (hK8 ?_)
      refine wc_seq ?_; intro K9 hK9
      refine wc_region ?_
      have hs3 := E.size
      refine wl_ef (ef_lit (z := .int .u8 0) Try.underlying24 (by kernel_rfl) rfl rfl rfl rfl rfl) rfl ?_
      rintro _ w4 ⟨g4, rfl, B4, hg4, ex⟩
      have x4 := ex; have R4 : Row w4 w3.heap.size 5 (some ⟨g4, 0, none⟩) 0 0 (([] : List UInt8).map bv) := Row.new B4 hg4 rfl (by unfold maxLen; omega)
      refine wl_y (y_move rfl) rfl ?_
      refine wl_ef (ef_app0 rfl rfl eltB R4 (HA.ext x4).2 (by rw [List.length_map, HA.1]) (by intro u hu; exact bv_one u hu) (by omega) (by omega) x4.size) rfl ?_
      rintro _ w5 ⟨AX, cx, rfl, RX, be, gr, hl⟩
      have ex : Ext w3 w5 := x4.trans be; have hWX : Dj AX AW := Dj.of RX (fun b o h => RW.lt' b o h)
      replace HA := HA.ext ex
      replace HB := HB.ext ex
      replace E := E.ext ex
      replace RW := RW.ext ex
      refine wl_y (y_assign rfl) rfl ?_
      refine wl_nil ?_
      refine wq_then_norm (hK9 ?_)
      refine wc_seq ?_; intro K10 hK10
      refine wc_region ?_
      have hs5 := E.size; have hz5 : w3.heap.size ≤ w5.heap.size := ex.size; have hXl : ∀ b o, AX = some ⟨b, o, none⟩ → b < w5.heap.size := fun b o h => RX.lt' b o h; have hWl : ∀ b o, AW = some ⟨b, o, none⟩ → b < w5.heap.size := fun b o h => RW.lt' b o h; have hX5 := RX.bs; have hXg : ∀ b o, AX = some ⟨b, o, none⟩ → w.heap.size ≤ b := fun b o h => Nat.le_trans hs3 (RX.ge' b o h); have hXs : ∀ b o s, AX = some ⟨b, o, s⟩ → s = none := fun b o s h => RX.none_s b o s h
      refine wl_call Try.func11 rfl rfl rfl (hnewS w.heap.size _ hs5) rfl ?_
      rintro e w7 ⟨gh, rfl, hg, hgl, H, ex⟩
      refine ⟨_, rfl, ?_⟩
      replace HA := HA.ext ex
      replace HB := HB.ext ex
      replace E := E.ext ex
      replace RW := RW.ext ex
      replace RX := RX.ext ex
      have hgw : w.heap.size ≤ gh := Nat.le_trans hs5 hg; have hX7 := hX5.ext ex
      refine wl_y (y_assign rfl) rfl ?_
      refine wl_nil ?_
      refine wq_then_norm (hK10 ?_)
      refine wc_seq ?_; intro K11 hK11
      refine wc_region ?_
      refine wl_y (y_move rfl) rfl ?_
      refine wl_y (y_move rfl) rfl ?_
      refine wl_call Try.func12 rfl rfl rfl (hwrite_any w.heap.size gh none AX 0 0 n cx [] xs _ H hX7 E.size (by simp; omega) (fun h => hX5.old hg h)) rfl ?_
      rintro e w8 ⟨rfl, A8, m8, c8, H8, U, N8⟩
      refine ⟨_, rfl, ?_⟩
      replace H8 : HashS w8 w.heap.size gh A8 m8 c8 xs := H8
      replace E := Ext.upd E U hgw (fun b o h => by cases h)
      replace RW := RW.upd U (fun o h => by have := hWl _ _ h; omega) (Dj.none_l _)
      replace RX := RX.upd U (fun o h => by have := hXl _ _ h; omega) (Dj.none_l _)
      have hgX : ∀ o, AX ≠ some ⟨gh, o, none⟩ := fun o h => by have := hXl _ _ h; omega
      have hX8 : Dj A8 AX := fun b o b' o' h1 h2 e => by
        have h3 := hXl b' o' h2
        rcases N8 b o h1 with ⟨o2, h4⟩ | h4
        · cases h4
        · omega
      have hgl8 := H8.blk.lt; have hA8 := H8.off.ge; replace HA := HA0.wk E; replace HB := HB0.wk E 
      refine wl_nil ?_
      refine wq_then_norm (hK11 ?_)
      refine wc_seq ?_; intro K12 hK12
      refine wc_region ?_
      refine wl_y (y_move rfl) rfl ?_
      have hz8 := Nat.le_refl w8.heap.size; have hXl8 : ∀ b o, AX = some ⟨b, o, none⟩ → b < w8.heap.size := fun b o h => RX.lt' b o h
      refine wl_call Try.func15 rfl rfl rfl (hsumS w.heap.size gh A8 m8 c8 xs _ H8 (by omega)) rfl ?_
      rintro e w9 ⟨A9, c9, rfl, R9, ex⟩
      refine ⟨_, rfl, ?_⟩
      replace HA := HA.ext ex
      replace HB := HB.ext ex
      replace E := E.ext ex
      replace RW := RW.ext ex
      replace RX := RX.ext ex
      replace H8 := H8.ext ex
      have hX9 : Dj AX A9 := (Dj.of R9 hXl8).symm
      refine wl_y (y_assign rfl) rfl ?_
      refine wl_nil ?_
      refine wq_then_norm (hK12 ?_)
      refine wc_seq ?_; intro K13 hK13
      refine wc_seq ?_; intro K14 hK14
      refine wc_region ?_
      refine wl_y (y_assign rfl) rfl ?_
      refine wl_nil ?_
      refine wq_then_norm (hK14 ?_)
      refine wc_block ?_
      refine wc_loop (fun n' L wr => ∃ (i : Nat) (zs : List UInt8), L = [(0, .slice A n c), (1, .slice B m d), (2, .int .u16 (zn : Int)), (7, .slice AW n cw), (8, .slice AX n cx), (9, .pointer (some ⟨gh, 0, none⟩)), (10, .slice A9 32 c9), (11, .int .i64 (i : Int))] ∧ n' = n - i ∧ (i ≤ n ∧ w9.grownBy wr (Value.slice AX n cx).ownBlock ∧ Row wr w3.heap.size 5 AX n cx (zs.map bv))) _ _ ⟨0, xs, rfl, rfl, by omega, World.grownBy.refl _ _, RX⟩ ⟨rfl, rfl, (by first | rfl | exact congrArg some (int_val (by omega))), rfl, rfl, rfl, rfl, (by first | rfl | exact congrArg some (int_val (by omega))), trivial⟩ ?_
      rintro KL1 n' L wr ⟨i, zs, rfl, rfl, hi, gr, R⟩ hL1
      refine wc_seq ?_; intro K15 hK15
      refine wc_seq ?_; intro K16 hK16
      refine wc_region ?_
      refine wl_y (y_move rfl) rfl ?_
      refine wl_y (y_move rfl) rfl ?_
      refine wl_y (y_len_slice rfl Try.underlying24) rfl ?_
      refine wl_y (y_lss rfl rfl) rfl ?_
      refine wl_nil ?_
      refine wq_then_norm (hK16 ?_)
      refine wc_dec rfl (fun hc3 => ?_) (fun hc3 => ?_)
      · skip
        refine wc_skip ?_
        refine wq_then_norm (hK15 ?_)
        refine wc_seq ?_; intro K17 hK17
        refine wc_block ?_
        obtain ⟨q, rfl, _⟩ := R.byte (i := i) (by omega)
        refine wc_region ?_
        refine wl_y (y_move rfl) rfl ?_
        refine wl_y (y_move rfl) rfl ?_
        refine wl_y (y_move rfl) rfl ?_
        refine wl_y (y_conv rfl Try.underlying35 Try.underlying5 (wrap_u8 zn)) rfl ?_
        refine wl_y (y_ixs1 rfl rfl Try.underlying24 (by kernel_rfl) rfl (by omega)) rfl ?_
        refine wl_ef (ef_storeR rfl rfl rfl (by kernel_rfl) R (by omega)) rfl ?_
        rintro _ w13 ⟨rfl, R13, cg⟩
        have gr13 := own_chg gr cg; have hset : (zs.map bv).set i (.int .u8 ((UInt8.ofNat zn).toNat : Int)) = (zs.set i (UInt8.ofNat zn)).map bv := by rw [List.map_set]; rfl
        rw [hset] at R13
        refine wl_nil ?_
        refine wq_blk_norm ?_
        refine wq_then_norm (hK17 ?_)
        refine wc_region ?_
        refine wl_y (y_move rfl) rfl ?_
        refine wl_y (y_add rfl rfl (i64_ok (by omega) (by omega))) rfl ?_
        refine wl_y (y_assign rfl) rfl ?_
        refine wl_nil ?_
        refine wq_then_norm ?_
        refine hL1 _ _ ⟨i + 1, zs.set i (UInt8.ofNat zn), rfl, rfl, by omega, gr13, R13⟩ (by omega) ⟨rfl, rfl, (by first | rfl | exact congrArg some (int_val (by omega))), rfl, rfl, rfl, rfl, (by first | rfl | exact congrArg some (int_val (by omega))), trivial⟩
      · skip
        refine wc_exit ?_
        refine wq_then_exit ?_
        refine wq_then_exit ?_
        refine wq_blk_hit ?_
        refine wq_then_norm (hK13 ?_)
        refine wc_seq ?_; intro K18 hK18
        refine wc_region ?_
        refine wl_y (y_move rfl) rfl ?_
        have E := E.own gr hXs hXg
        have H := H8.own gr hXs hgX hX8
        have RW := RW.own gr hXs hWX
        have R9 := R9.own gr hXs hX9
        have HA := HA0.wk E
        have HB := HB0.wk E
        have f1 : [xs].flatten = xs := by simp
        have f3 : [xs, [], ys].flatten = xs ++ ys := by simp
        refine wl_call Try.func15 rfl rfl rfl (hsumS w.heap.size gh A8 m8 c8 xs _ H (by omega)) rfl ?_
        rintro e w14 ⟨A14, c14, rfl, R14, ex⟩
        refine ⟨_, rfl, ?_⟩
        replace E := E.ext ex; replace H := H.ext ex; replace RW := RW.ext ex; replace R9 := R9.ext ex; replace HA := HA.ext ex; replace HB := HB.ext ex
        refine wl_y (y_assign rfl) rfl ?_
        refine wl_nil ?_
        refine wq_then_norm (hK18 ?_)
        refine wc_seq ?_; intro K19 hK19
        refine wc_seq ?_; intro K20 hK20
        refine wc_region ?_
        refine wl_y (y_move rfl) rfl ?_
        refine wl_y (y_len_slice rfl Try.underlying24) rfl ?_
        refine wl_y (Y.as (y_neq rfl rfl) (congrArg Value.bool (decide_eq_false (by simp)))) rfl ?_
        refine wl_y (y_move rfl) rfl ?_
        refine wl_gy 53 rfl rfl (y_move rfl) rfl ?_
        refine wl_gy 53 rfl rfl (y_move rfl) rfl ?_
        refine wl_gcall 53 rfl rfl Try.func14 rfl rfl rfl (hsame_any A9 A14 32 32 c9 c14 _ _ _ R9.bs R14.bs (by omega) (by omega)) rfl ?_
        rintro e w15 ⟨rfl, ex⟩
        refine ⟨_, rfl, ?_⟩
        replace E := E.ext ex
        replace H := H.ext ex
        replace RW := RW.ext ex
        replace R9 := R9.ext ex
        replace HA := HA.ext ex
        replace HB := HB.ext ex
        replace R14 := R14.ext ex
        rw [decide_eq_true rfl]
        refine wl_gy 53 rfl rfl (y_not rfl) rfl ?_
        refine wl_y (y_pickf rfl rfl) rfl ?_
        refine wl_y (y_move rfl) rfl ?_
        refine wl_gy 59 rfl rfl (y_move rfl) rfl ?_
        refine wl_gy 59 rfl rfl (y_move rfl) rfl ?_
        refine wl_gef 59 rfl rfl (ef_lit (z := .slice none 0 0) Try.underlying22 (by kernel_rfl) rfl rfl rfl rfl rfl) rfl ?_
        rintro _ w16 ⟨g16, rfl, B16, hg16, ex⟩
        replace E := E.ext ex
        replace H := H.ext ex
        replace RW := RW.ext ex
        replace R9 := R9.ext ex
        replace HA := HA.ext ex
        replace HB := HB.ext ex
        replace R14 := R14.ext ex
        have S16 := bss_one B16 HA
        refine wl_gcall 59 rfl rfl Try.func17 rfl rfl rfl (of_any _ 1 1 _ _ S16 (by omega) (by rw [f1]; omega)) rfl ?_
        rintro e w17 ⟨g17, rfl, hg17, B17, ex⟩
        refine ⟨_, rfl, ?_⟩
        replace E := E.ext ex
        replace H := H.ext ex
        replace RW := RW.ext ex
        replace R9 := R9.ext ex
        replace HA := HA.ext ex
        replace HB := HB.ext ex
        replace R14 := R14.ext ex
        rw [f1] at B17; have S17 := bs_blk' B17 (Sha.sum_length _)
        refine wl_gcall 59 rfl rfl Try.func14 rfl rfl rfl (hsame_any A9 _ 32 32 c9 32 _ _ _ R9.bs S17 (by omega) (by omega)) rfl ?_
        rintro e w18 ⟨rfl, ex⟩
        refine ⟨_, rfl, ?_⟩
        replace E := E.ext ex
        replace H := H.ext ex
        replace RW := RW.ext ex
        replace R9 := R9.ext ex
        replace HA := HA.ext ex
        replace HB := HB.ext ex
        replace R14 := R14.ext ex
        replace S17 := S17.ext ex
        rw [decide_eq_true rfl]
        refine wl_gy 59 rfl rfl (y_not rfl) rfl ?_
        refine wl_y (y_pickf rfl rfl) rfl ?_
        refine wl_y (y_move rfl) rfl ?_
        refine wl_gy 67 rfl rfl (y_move rfl) rfl ?_
        refine wl_gy 67 rfl rfl (y_move rfl) rfl ?_
        refine wl_gcall 67 rfl rfl Try.func14 rfl rfl rfl (hsame_any A AW n n c cw xs xs _ HA RW.bs (by omega) (by omega)) rfl ?_
        rintro e w19 ⟨rfl, ex⟩
        refine ⟨_, rfl, ?_⟩
        replace E := E.ext ex
        replace H := H.ext ex
        replace RW := RW.ext ex
        replace R9 := R9.ext ex
        replace HA := HA.ext ex
        replace HB := HB.ext ex
        replace R14 := R14.ext ex
        replace S17 := S17.ext ex
        rw [decide_eq_true rfl]
        refine wl_gy 67 rfl rfl (y_not rfl) rfl ?_
        refine wl_y (y_pickf rfl rfl) rfl ?_
        refine wl_nil ?_
        refine wq_then_norm (hK20 ?_)
        refine wc_false rfl rfl ?_
        refine wc_skip ?_
        refine wq_then_norm (hK19 ?_)
        refine wc_seq ?_; intro K21 hK21
        obtain ⟨q, rfl, hcell, hq9, _⟩ := R9.byte (i := zn % 32) (by omega)
        have hxj := ((Sha.sum xs).getD (zn % 32) 0).toNat_lt
        refine wc_region ?_
        refine wl_y (y_move rfl) rfl ?_
        refine wl_y (y_move rfl) rfl ?_
        refine wl_y (y_conv rfl Try.underlying35 Try.underlying3 (i64_ok (by omega) (by omega))) rfl ?_
        refine wl_y (y_rem rfl rfl (by omega) (IntWalk.rem_in _ _ (by omega))) rfl ?_
        refine wl_y (y_move rfl) rfl ?_
        refine wl_y (y_move rfl) rfl ?_
        refine wl_y (y_conv rfl Try.underlying35 Try.underlying3 (i64_ok (by omega) (by omega))) rfl ?_
        refine wl_y (y_rem rfl rfl (by omega) (IntWalk.rem_in _ _ (by omega))) rfl ?_
        refine wl_y (y_ixs1 rfl rfl Try.underlying24 (by kernel_rfl) (j := zn % 32) (by omega) (by omega)) rfl ?_
        refine wl_y (y_load1 rfl Try.underlying5 rfl hcell) rfl ?_
        refine wl_y (y_xor rfl rfl (bits_u8 (q := 1) (by omega) (by omega)).2.2) rfl ?_
        refine wl_y (y_ixs1 rfl rfl Try.underlying24 (by kernel_rfl) (j := zn % 32) (by omega) (by omega)) rfl ?_
        refine wl_ef (ef_storeR rfl rfl rfl (by kernel_rfl) R9 (by omega)) rfl ?_
        rintro _ w20 ⟨rfl, _, cg⟩
        replace E := E.chg cg (by omega); replace H := H.chg cg (by omega) (fun o h => by have := (hA8 _ _ h).2; omega); have HA := HA0.wk E; have HB := HB0.wk E
        refine wl_nil ?_
        refine wq_then_norm (hK21 ?_)
        refine wc_seq ?_; intro K22 hK22
        refine wc_region ?_
        refine wl_y (y_move rfl) rfl ?_
        refine wl_y (y_move rfl) rfl ?_
        refine wl_call Try.func12 rfl rfl rfl (hwrite_any w.heap.size gh A8 B m8 c8 m d xs ys _ H HB E.size (by omega) (fun h => HB0.old hgw h)) rfl ?_
        rintro e w21 ⟨rfl, A21, m21, c21, H21, U, N21⟩
        refine ⟨_, rfl, ?_⟩
        replace E := Ext.upd E U hgw (fun b o h => (H.off.ge b o h).1); have H := H21; have HA := HA0.wk E; have HB := HB0.wk E
        refine wl_nil ?_
        refine wq_then_norm (hK22 ?_)
        refine wc_seq ?_; intro K23 hK23
        refine wc_region ?_
        have HA2 := HA; have HB2 := HB
        refine wl_ef (ef_lit (z := .int .u8 0) Try.underlying24 (by kernel_rfl) rfl rfl rfl rfl rfl) rfl ?_
        rintro _ w22 ⟨g22, rfl, B22, hg22, ex⟩
        have x22 := ex; have R22 : Row w22 w21.heap.size 5 (some ⟨g22, 0, none⟩) 0 0 (([] : List UInt8).map bv) := Row.new B22 hg22 rfl (by unfold maxLen; omega)
        refine wl_y (y_move rfl) rfl ?_
        refine wl_ef (ef_app0 rfl rfl eltB R22 (HA.ext x22).2 (by rw [List.length_map, HA.1]) (by intro u hu; exact bv_one u hu) (by omega) (by omega) x22.size) rfl ?_
        rintro _ w23 ⟨A23, c23, rfl, R23, be, gr, hl⟩
        have x23 : Ext w21 w23 := x22.trans be
        refine wl_y (y_move rfl) rfl ?_
        refine wl_ef (ef_app rfl rfl eltB R23 (HB.ext x23).2 (by rw [List.length_map, HB.1]) (by intro u hu; exact bv_one u hu) (by omega) (by omega) x23.size) rfl ?_
        rintro _ w24 ⟨A24, c24, rfl, R24, be, gr, hl⟩
        have ex : Ext w21 w24 := x23.trans be; have S24 := R24.cat.bs
        replace E := E.ext ex
        replace H := H.ext ex
        replace HA := HA.ext ex
        replace HB := HB.ext ex
        refine wl_call Try.func13 rfl rfl rfl (sum_any A24 (n + m) c24 (xs ++ ys) _ S24 (by omega)) rfl ?_
        rintro e w25 ⟨rfl, ex⟩
        refine ⟨_, rfl, ?_⟩
        replace E := E.ext ex
        replace H := H.ext ex
        replace HA := HA.ext ex
        replace HB := HB.ext ex
        skip
        refine wl_y (y_move rfl) rfl ?_
        refine wl_y (y_move rfl) rfl ?_
        refine wl_ef (ef_lit (z := .slice none 0 0) Try.underlying22 (by kernel_rfl) rfl rfl rfl rfl rfl) rfl ?_
        rintro _ w26 ⟨g26, rfl, B26, hg26, ex⟩
        replace E := E.ext ex
        replace H := H.ext ex
        replace HA := HA.ext ex
        replace HB := HB.ext ex
        have S26 := bss_three B26 HA (Bs.nil _ none) HB
        refine wl_call Try.func17 rfl rfl rfl (of_any _ 3 3 _ _ S26 (by omega) (by rw [f3, List.length_append]; omega)) rfl ?_
        rintro e w27 ⟨g27, rfl, hg27, B27, ex⟩
        refine ⟨_, rfl, ?_⟩
        replace E := E.ext ex
        replace H := H.ext ex
        replace HA := HA.ext ex
        replace HB := HB.ext ex
        rw [f3] at B27; have S27 := bs_blk' B27 (Sha.sum_length _); have F := Ext.refl w27
        refine wl_ef (ef_alloc (Z := bys (zbs 32)) (by kernel_rfl)) rfl ?_
        rintro _ w28 ⟨g28, rfl, B28, hg28, ex⟩
        replace F := F.ext ex
        refine wl_ef (ef_storeW rfl rfl (by rw [bys_size, Sha.sum_length]; kernel_rfl) B28 (by rw [bys_size, bys_size, Sha.sum_length]; rfl) (bys_one _)) rfl ?_
        rintro _ w29 ⟨rfl, B29, cg⟩
        replace F := F.chg cg hg28; replace E := E.ext F; replace H := H.ext F; replace S27 := S27.ext F; replace HA := HA.ext F; replace HB := HB.ext F; have D := bs_blk' B29 (Sha.sum_length _)
        refine wl_y (y_assign rfl) rfl ?_
        refine wl_nil ?_
        refine wq_then_norm (hK23 ?_)
        refine wc_seq ?_; intro K24 hK24
        refine wc_draw (by kernel_rfl) 20 rfl ?_; intro wd20 ex hd20
        replace E := E.ext ex
        replace H := H.ext ex
        replace HA := HA.ext ex
        replace HB := HB.ext ex
        replace S27 := S27.ext ex
        replace D := D.ext ex
        refine wm_y 0 rfl (by kernel_rfl) (y_move rfl) rfl ?_
        refine wm_y 2 rfl (by kernel_rfl) (y_cutarr (s := 1) rfl Try.underlying28 (by kernel_rfl)) rfl ?_
        refine wm_one 1 (by kernel_rfl) ?_; refine om_call rfl Try.func15 rfl rfl rfl (hsumS w.heap.size gh A21 m21 c21 (xs ++ ys) _ H (by rw [List.length_append]; omega)) rfl ?_
        rintro e w30 ⟨A30, c30, rfl, R30, ex⟩
        refine ⟨_, rfl, .inr ex, ?_⟩
        replace E := E.ext ex
        replace H := H.ext ex
        replace HA := HA.ext ex
        replace HB := HB.ext ex
        replace S27 := S27.ext ex
        replace D := D.ext ex
        have S30 := R30.bs
        refine wm_one 3 (by kernel_rfl) ?_; refine om_call rfl Try.func14 rfl rfl rfl (hsame_any _ _ 32 32 _ _ _ _ _ S30 D (by omega) (by omega)) rfl ?_
        rintro e w31 ⟨rfl, ex⟩
        refine ⟨_, rfl, .inr ex, ?_⟩
        replace E := E.ext ex
        replace H := H.ext ex
        replace HA := HA.ext ex
        replace HB := HB.ext ex
        replace S27 := S27.ext ex
        replace D := D.ext ex
        replace S30 := S30.ext ex
        rw [decide_eq_true rfl]
        refine wm_y 4 rfl (by kernel_rfl) (y_move rfl) rfl ?_
        refine wm_gy 5 rfl (by kernel_rfl) 102 rfl rfl (y_move rfl) rfl ?_
        refine wm_gy 6 rfl (by kernel_rfl) 102 rfl rfl (y_cutarr (s := 1) rfl Try.underlying28 (by kernel_rfl)) rfl ?_
        refine wm_one 7 (by kernel_rfl) ?_; refine om_gcall rfl 102 rfl rfl Try.func14 rfl rfl rfl (hsame_any _ _ 32 32 _ _ _ _ _ S27 D (by omega) (by omega)) rfl ?_
        rintro e w32 ⟨rfl, ex⟩
        refine ⟨_, rfl, .inr ex, ?_⟩
        replace E := E.ext ex
        replace H := H.ext ex
        replace HA := HA.ext ex
        replace HB := HB.ext ex
        replace S27 := S27.ext ex
        replace D := D.ext ex
        replace S30 := S30.ext ex
        rw [decide_eq_true rfl]
        refine wm_y 8 rfl (by kernel_rfl) (y_pickt rfl rfl) rfl ?_
        refine wm_y 9 rfl (by kernel_rfl) (y_move rfl) rfl ?_
        refine wm_gy 10 rfl (by kernel_rfl) 107 rfl rfl (y_move rfl) rfl ?_
        refine wm_gy 12 rfl (by kernel_rfl) 107 rfl rfl (y_move rfl) rfl ?_
        refine wm_gy 13 rfl (by kernel_rfl) 107 rfl rfl (y_len_slice rfl Try.underlying24) rfl ?_
        refine wm_gy 14 rfl (by kernel_rfl) 107 rfl rfl (y_move rfl) rfl ?_
        refine wm_gy 15 rfl (by kernel_rfl) 107 rfl rfl (y_len_slice rfl Try.underlying24) rfl ?_
        refine wm_gy 16 rfl (by kernel_rfl) 107 rfl rfl (y_add rfl rfl (i64_ok (by omega) (by omega))) rfl ?_
        refine wm_one 11 (by kernel_rfl) ?_; refine om_gcall rfl 107 rfl rfl Try.func16 rfl rfl rfl (hlen_any gh _ A21 m21 c21 _ _ H.blk) rfl ?_
        rintro e w33 ⟨rfl, ex⟩
        refine ⟨_, rfl, .inr ex, ?_⟩
        replace E := E.ext ex
        replace H := H.ext ex
        replace HA := HA.ext ex
        replace HB := HB.ext ex
        replace S27 := S27.ext ex
        replace D := D.ext ex
        replace S30 := S30.ext ex
        skip
        refine wm_gy 17 rfl (by kernel_rfl) 107 rfl rfl (Y.as (y_eql rfl rfl) (congrArg Value.bool (decide_eq_true (by rw [List.length_append]; omega)))) rfl ?_
        refine wm_y 18 rfl (by kernel_rfl) (y_pickt rfl rfl) rfl ?_
        refine wm_y 19 rfl (by kernel_rfl) (y_assign rfl) rfl ?_
        refine wm_done (by kernel_rfl) ?_
        refine wq_nop ?_
        refine wq_then_norm (hK24 ?_)
        refine wc_ret ?_
        refine hret rfl ?_
        exact ⟨rfl, E⟩
end Go.Proofs.Ytopbahbhldgbbaa
