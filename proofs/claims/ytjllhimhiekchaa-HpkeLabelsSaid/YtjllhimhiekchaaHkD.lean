/- Layer 13 is alive; the reference's Extract, Expand, Private, Shared. No conditions: contracts of functions. -/
import Derived.Test.YtjllhimhiekchaaHkC
import Derived.Test.YtjllhimhiekchaaDhI
namespace Go.Proofs.Ytjllhimhiekchaa
open Go.RowKit
attribute [local irreducible] Y Ef WL WC WK WQ WM OpM WN WF OpN
open Hk
/-! The chapter's example: the secret of the pair of the seed 1 with itself is one. -/
theorem priv1 : priv [1] = [207, 96, 167, 173, 204, 198, 35, 196, 234, 23, 145, 146, 219, 236, 70, 92, 209, 205, 70, 33, 116, 179, 96, 37, 102, 7, 9, 202, 195, 46, 117, 136] := by decide +kernel
theorem num1 : Fp.num (clampB (priv [1])) = 32773568963372600581799278024078655435669867420975657328979809714368168812744 := by rw [priv1]; decide +kernel
theorem lad1 : (ladder (Fp.of 9) 32773568963372600581799278024078655435669867420975657328979809714368168812744 255).1.1 = Fp.of 13315736312119768423867765739587125985366678284679097977505975811380837911096 * (ladder (Fp.of 9) 32773568963372600581799278024078655435669867420975657328979809714368168812744 255).1.2 := by decide +kernel
theorem lad1n : (ladder (Fp.of 9) 32773568963372600581799278024078655435669867420975657328979809714368168812744 255).1.2 ≠ 0 := by decide +kernel
theorem lad2 : (ladder (Fp.of 13315736312119768423867765739587125985366678284679097977505975811380837911096) 32773568963372600581799278024078655435669867420975657328979809714368168812744 255).1.1 ≠ 0 := by decide +kernel
theorem lad2n : (ladder (Fp.of 13315736312119768423867765739587125985366678284679097977505975811380837911096) 32773568963372600581799278024078655435669867420975657328979809714368168812744 255).1.2 ≠ 0 := by decide +kernel
theorem mul1 : dhMul 32773568963372600581799278024078655435669867420975657328979809714368168812744 (Fp.of 9) = Fp.of 13315736312119768423867765739587125985366678284679097977505975811380837911096 := (Ed.eq_div lad1n lad1).symm
theorem mul2 : dhMul 32773568963372600581799278024078655435669867420975657328979809714368168812744 (Fp.of 13315736312119768423867765739587125985366678284679097977505975811380837911096) ≠ 0 := fun h => by
  unfold dhMul at h
  rcases Fp.zero_or h with h | h
  · exact lad2 h
  · exact Fp.inv_ne lad2n h
theorem any_of {u : Fp.F} (h : u ≠ 0) : (Fp.le 32 u.val).any (fun x => decide (x ≠ 0)) = true := by
  refine Classical.byContradiction fun hn => h ?_
  have h0 : ∀ x ∈ Fp.le 32 u.val, x = 0 := fun x hx => Classical.byContradiction fun hc => hn (List.any_eq_true.2 ⟨x, hx, decide_eq_true hc⟩)
  have e : Fp.le 32 u.val = List.replicate 32 0 := List.eq_replicate_iff.2 ⟨Fp.le_length _ _, h0⟩
  have := Ed.ofB_le u
  rw [e] at this
  rw [← this]; decide +kernel
theorem alive13_s : (dhS (priv [1]) (pub [1])).2 = 0 := by
  have hp := priv_length [1]
  have e1 : pub [1] = Fp.le 32 (Fp.of 13315736312119768423867765739587125985366678284679097977505975811380837911096).val := by
    unfold pub
    rw [nine_val, dhM_ok hp, num1, mul1]
  have e2 : dhM (priv [1]) (pub [1]) = (Fp.le 32 (dhMul 32773568963372600581799278024078655435669867420975657328979809714368168812744 (Fp.of 13315736312119768423867765739587125985366678284679097977505975811380837911096)).val, 0) := by
    rw [e1, dhM_ok hp, num1]
  unfold dhS
  rw [e2, if_neg (by show ¬ (0 : Nat) ≠ 0; omega), if_pos (any_of mul2)]
theorem alive13_u : (unw (priv [1]) (pub [1])).2 = 0 := by
  unfold unw; rw [if_neg (by rw [alive13_s]; omega)]
theorem alive13_any (w : World) : Calls Try.prog 9 #[] w fun e w' => e = .returned (.bool true) ∧ Ext w w' := by
  have E := Ext.refl w
  have hb := dhb_ok (priv_length [1])
  refine vc_enter1 42 Try.func9 rfl rfl rfl rfl ?_
  intro Q hret
  refine wc_seq ?_; intro K1 hK1
  refine wc_region ?_
  refine wl_y (y_assign rfl) rfl ?_
  refine wl_nil ?_
  refine wq_then_norm (hK1 ?_)
  refine wc_seq ?_; intro K2 hK2
  refine wc_region ?_
  refine wl_ef (ef_lit (z := .int .u8 0) Try.underlying22 (by kernel_rfl) rfl rfl rfl rfl rfl) rfl ?_
  rintro _ w1 ⟨g1, rfl, D1, hg1, ex⟩
  replace E := E.ext ex
  have H1 := bs_blk' (xs := [1]) (D1.congr rfl) rfl
  refine wl_call Try.func10 rfl rfl rfl (hpair_any _ 1 1 [1] _ H1 (by omega)) rfl ?_
  rintro e w2 ⟨A2, c2, A3, c3, rfl, H2, H3, hc2, ex⟩
  refine ⟨_, rfl, ?_⟩
  replace E := E.ext ex
  skip
  refine wl_y (y_move rfl) rfl ?_
  refine wl_y (y_extract rfl rfl) rfl ?_
  refine wl_y (y_extract rfl rfl) rfl ?_
  refine wl_y (y_assign rfl) rfl ?_
  refine wl_y (y_assign rfl) rfl ?_
  refine wl_nil ?_
  refine wq_then_norm (hK2 ?_)
  refine wc_seq ?_; intro K3 hK3
  refine wc_region ?_
  refine wl_y (y_move rfl) rfl ?_
  refine wl_call Try.func12 rfl rfl rfl (dhbase_any A2 32 c2 _ _ H2) rfl ?_
  rintro e w3 ⟨A4, k4, c4, rfl, H4, _, ex⟩
  refine ⟨_, rfl, ?_⟩
  replace E := E.ext ex
  replace H2 := H2.ext ex
  replace H3 := H3.ext ex
  rw [hb.2]
  refine wl_y (y_move rfl) rfl ?_
  refine wl_y (y_extract rfl rfl) rfl ?_
  refine wl_y (y_extract rfl rfl) rfl ?_
  refine wl_y (y_assign rfl) rfl ?_
  refine wl_y (y_assign rfl) rfl ?_
  refine wl_nil ?_
  refine wq_then_norm (hK3 ?_)
  refine wc_seq ?_; intro K4 hK4
  refine wc_region ?_
  refine wl_y (y_move rfl) rfl ?_
  refine wl_y (y_move rfl) rfl ?_
  refine wl_ef (ef_make (n := 15) (z := .int .u8 0) (bytes := 1) rfl rfl Try.underlying22 (by kernel_rfl) rfl rfl rfl rfl (by omega) (by omega)) rfl ?_
  rintro _ w4 ⟨g4, rfl, B4, hg4, ex⟩
  replace E := E.ext ex
  replace H2 := H2.ext ex
  replace H3 := H3.ext ex
  replace H4 := H4.ext ex
  skip
  refine wl_call Try.func15 rfl rfl rfl (hopen_short A2 A3 none _ none 32 c2 32 c3 0 0 15 15 0 0 _ _ [] _ H2 (by omega) H3 (by omega) (Bs.nil _ _) (by omega) (by omega) alive13_u) rfl ?_
  rintro e w5 ⟨rfl, ex⟩
  refine ⟨_, rfl, ?_⟩
  replace E := E.ext ex
  replace H2 := H2.ext ex
  replace H3 := H3.ext ex
  replace H4 := H4.ext ex
  skip
  refine wl_y (y_move rfl) rfl ?_
  refine wl_y (y_extract rfl rfl) rfl ?_
  refine wl_y (y_extract rfl rfl) rfl ?_
  refine wl_y (y_assign rfl) rfl ?_
  refine wl_y (y_assign rfl) rfl ?_
  refine wl_nil ?_
  refine wq_then_norm (hK4 ?_)
  refine wc_seq ?_; intro K5 hK5
  refine wc_region ?_
  refine wl_y (y_move rfl) rfl ?_
  refine wl_y (y_len_slice rfl Try.underlying22) rfl ?_
  refine wl_y (Y.as (y_eql rfl rfl) (congrArg Value.bool (decide_eq_true rfl))) rfl ?_
  refine wl_y (y_move rfl) rfl ?_
  refine wl_gy 27 rfl rfl (y_move rfl) rfl ?_
  refine wl_gy 27 rfl rfl (y_conv rfl Try.underlying27 Try.underlying3 (i64_ok (by omega) (by omega))) rfl ?_
  refine wl_gy 27 rfl rfl (Y.as (y_eql rfl rfl) (congrArg Value.bool (decide_eq_true rfl))) rfl ?_
  refine wl_y (y_pickt rfl rfl) rfl ?_
  refine wl_y (y_move rfl) rfl ?_
  refine wl_gy 32 rfl rfl (y_move rfl) rfl ?_
  refine wl_gy 32 rfl rfl (y_move rfl) rfl ?_
  refine wl_gcall 32 rfl rfl Try.func13 rfl rfl rfl (sameE_any A4 A3 k4 32 c4 c3 _ _ _ H4 H3 (by have := H4.1; have := hb.1; omega) (by omega)) rfl ?_
  rintro e w6 ⟨rfl, ex⟩
  refine ⟨_, rfl, ?_⟩
  replace E := E.ext ex
  replace H2 := H2.ext ex
  replace H3 := H3.ext ex
  replace H4 := H4.ext ex
  rw [decide_eq_true (show (dhM (priv [1]) (Fp.le 32 9)).1 = pub [1] from rfl)]
  refine wl_y (y_pickt rfl rfl) rfl ?_
  refine wl_y (y_move rfl) rfl ?_
  refine wl_gy 37 rfl rfl (y_move rfl) rfl ?_
  refine wl_gy 37 rfl rfl (y_conv rfl Try.underlying27 Try.underlying3 (i64_ok (by omega) (by omega))) rfl ?_
  refine wl_gy 37 rfl rfl (Y.as (y_eql rfl rfl) (congrArg Value.bool (decide_eq_true rfl))) rfl ?_
  refine wl_y (y_pickt rfl rfl) rfl ?_
  refine wl_y (y_assign rfl) rfl ?_
  refine wl_nil ?_
  refine wq_then_norm (hK5 ?_)
  refine wc_ret ?_
  refine hret rfl ?_
  exact ⟨rfl, E⟩
theorem hjoin_any (A B : Option Addr) (n c m d : Nat) (xs ys : List UInt8) (w : World) (HA : Bs w A n xs) (hn : n ≤ 1000000) (HB : Bs w B m ys) (hm : m ≤ 1000000) :
    Calls Try.prog 38 #[.slice A n c, .slice B m d] w fun e w' => ∃ A' k c', e = .returned (.slice A' k c') ∧ Row w' w.heap.size 5 A' k c' ((xs ++ ys).map bv) ∧ k = n + m ∧ Ext w w' := by
  have E := Ext.refl w
  refine vc_enter1 10 Try.func38 rfl rfl rfl rfl ?_
  intro Q hret
  refine wc_seq ?_; intro K1 hK1
  have HB0 := HB
  refine wc_region ?_
  refine wl_y (y_assign rfl) rfl ?_
  refine wl_nil ?_
  refine wq_then_norm (hK1 ?_)
  refine wc_seq ?_; intro K2 hK2
  refine wc_region ?_
  refine wl_ef (ef_lit (z := .int .u8 0) Try.underlying22 (by kernel_rfl) rfl rfl rfl rfl rfl) rfl ?_
  rintro _ w1 ⟨g1, rfl, D1, hg1, ex⟩
  replace HA := HA.ext ex
  replace HB := HB.ext ex
  replace E := E.ext ex
  have R1 : Row w1 w.heap.size 5 (some ⟨g1, 0, none⟩) 0 0 [] := Row.new D1 hg1 rfl (by unfold maxLen; omega)
  refine wl_y (y_move rfl) rfl ?_
  refine wl_ef (ef_app rfl rfl eltB R1 HA.2 (by rw [List.length_map, HA.1]) (by intro u hu; exact bv_one u hu) (by omega) (by omega) E.size) rfl ?_
  rintro _ w2 ⟨A2, c2, rfl, R2, be, gr, hl⟩
  have E2 := E.trans be
  refine wl_y (y_move rfl) rfl ?_
  refine wl_ef (ef_app rfl rfl eltB R2 (HB0.wk E2).2 (by rw [List.length_map, HB0.1]) (by intro u hu; exact bv_one u hu) (by omega) (by omega) E2.size) rfl ?_
  rintro _ w3 ⟨A3, c3, rfl, R3, be, gr, hl⟩
  have E3 := E2.trans be; rw [List.nil_append, ← List.map_append] at R3
  refine wl_y (y_assign rfl) rfl ?_
  refine wl_nil ?_
  refine wq_then_norm (hK2 ?_)
  refine wc_ret ?_
  refine hret rfl ?_
  exact ⟨A3, _, c3, rfl, R3, by omega, E3⟩
theorem ext_eq (nm : List UInt8) (lb : ByteArray) (xs ys : List UInt8) : Mac.tag xs (([72, 80, 75, 69, 45, 118, 49] ++ nm) ++ (lb.data.toList ++ ys)) = Hk.ext (strB nm) xs lb ys := by
  unfold Hk.ext; congr 1
  simp only [cat_cons, sb_strB, show cat [] = [] from rfl, List.append_nil, List.append_assoc]; rfl
theorem exp_eq (nm : List UInt8) (lb : ByteArray) (xs ys : List UInt8) (k : Nat) : Kdf.expand xs (((Wire.be 2 k ++ [72, 80, 75, 69, 45, 118, 49]) ++ nm) ++ (lb.data.toList ++ ys)) k = Hk.exp (strB nm) xs lb ys k := by
  unfold Hk.exp; congr 1
  simp only [cat_cons, sb_strB, show cat [] = [] from rfl, List.append_nil, List.append_assoc]; rfl
theorem rextract_any (N A B : Option Addr) (p q n c m d : Nat) (nm xs ys : List UInt8) (lb : ByteArray) (w : World) (HN : Bs w N p nm) (hp : p ≤ 100) (HA : Bs w A n xs) (hn : n ≤ 100000) (HB : Bs w B m ys) (hm : m ≤ 10000) (h2 : lb.size ≤ 100) :
    Calls Try.prog 30 #[.slice N p q, .slice A n c, .string lb, .slice B m d] w fun e w' => ∃ A' c', e = .returned (.slice A' 32 c') ∧ Bs w' A' 32 (Hk.ext (strB nm) xs lb ys) ∧ Ext w w' := by
  have E := Ext.refl w
  refine vc_enter1 20 Try.func30 rfl rfl rfl rfl ?_
  intro Q hret
  refine wc_seq ?_; intro K1 hK1
  refine wc_region ?_
  refine wl_y (y_assign rfl) rfl ?_
  refine wl_nil ?_
  refine wq_then_norm (hK1 ?_)
  refine wc_seq ?_; intro K2 hK2
  refine wc_region ?_
  refine wl_y (y_move rfl) rfl ?_
  refine wl_ef (ef_litX (z := .int .u8 0) Try.underlying22 (by kernel_rfl) rfl rfl rfl rfl rfl) rfl ?_
  rintro _ _ ⟨rfl, rfl⟩
  skip
  refine wl_ef (ef_mark rfl Try.underlying22 Try.underlying5) rfl ?_
  rintro _ w1 ⟨rfl, hw1⟩
  have ex := show Ext w w1 from by rw [hw1]; exact Ext.alloc _ _
  replace HN := HN.ext ex
  replace HA := HA.ext ex
  replace HB := HB.ext ex
  replace E := E.ext ex
  have S1 : Bs w1 (some ⟨w.heap.size, 0, none⟩) 7 [72, 80, 75, 69, 45, 118, 49] := by rw [hw1]; exact bs_marked (cs := [.int .u8 72, .int .u8 80, .int .u8 75, .int .u8 69, .int .u8 45, .int .u8 118, .int .u8 49]) rfl
  clear hw1 
  refine wl_y (y_move rfl) rfl ?_
  refine wl_call Try.func38 rfl rfl rfl (hjoin_any _ N 7 7 p q _ nm _ S1 (by omega) HN (by omega)) rfl ?_
  rintro e w2 ⟨A2, k2, c2, rfl, R2, hk2, ex⟩
  refine ⟨_, rfl, ?_⟩
  replace HN := HN.ext ex
  replace HA := HA.ext ex
  replace HB := HB.ext ex
  replace E := E.ext ex
  replace S1 := S1.ext ex
  have H2 := R2.bs
  refine wl_y (y_move rfl) rfl ?_
  refine wl_ef (ef_str rfl Try.underlying9 Try.underlying22 Try.underlying5) rfl ?_
  rintro _ w3 ⟨g3, c3, rfl, H3, hg3, ex⟩
  replace HN := HN.ext ex
  replace HA := HA.ext ex
  replace HB := HB.ext ex
  replace E := E.ext ex
  replace S1 := S1.ext ex
  replace H2 := H2.ext ex
  skip
  refine wl_y (y_move rfl) rfl ?_
  refine wl_call Try.func38 rfl rfl rfl (hjoin_any _ B lb.size c3 m d _ ys _ H3 (by omega) HB (by omega)) rfl ?_
  rintro e w4 ⟨A4, k4, c4, rfl, R4, hk4, ex⟩
  refine ⟨_, rfl, ?_⟩
  replace HN := HN.ext ex
  replace HA := HA.ext ex
  replace HB := HB.ext ex
  replace E := E.ext ex
  replace S1 := S1.ext ex
  replace H2 := H2.ext ex
  replace H3 := H3.ext ex
  have H4 := R4.bs
  refine wl_call Try.func38 rfl rfl rfl (hjoin_any A2 A4 k2 c2 k4 c4 _ _ _ H2 (by omega) H4 (by omega)) rfl ?_
  rintro e w5 ⟨A5, k5, c5, rfl, R5, hk5, ex⟩
  refine ⟨_, rfl, ?_⟩
  replace HN := HN.ext ex
  replace HA := HA.ext ex
  replace HB := HB.ext ex
  replace E := E.ext ex
  replace S1 := S1.ext ex
  replace H2 := H2.ext ex
  replace H3 := H3.ext ex
  replace H4 := H4.ext ex
  have H5 := R5.bs
  refine wl_call Try.func51 rfl rfl rfl (ref04_any A A5 n c k5 c5 xs _ _ HA (by omega) H5 (by omega)) rfl ?_
  rintro e w6 ⟨A6, c6, rfl, R6, ex⟩
  refine ⟨_, rfl, ?_⟩
  replace HN := HN.ext ex
  replace HA := HA.ext ex
  replace HB := HB.ext ex
  replace E := E.ext ex
  replace S1 := S1.ext ex
  replace H2 := H2.ext ex
  replace H3 := H3.ext ex
  replace H4 := H4.ext ex
  replace H5 := H5.ext ex
  have H6 := R6.bs; rw [ext_eq] at H6
  refine wl_y (y_assign rfl) rfl ?_
  refine wl_nil ?_
  refine wq_then_norm (hK2 ?_)
  refine wc_ret ?_
  refine hret rfl ?_
  exact ⟨A6, c6, rfl, H6, E⟩
theorem rexpand_any (N A B : Option Addr) (p q n c m d k : Nat) (nm xs ys : List UInt8) (lb : ByteArray) (w : World) (HN : Bs w N p nm) (hp : p ≤ 100) (HA : Bs w A n xs) (hn : n ≤ 100000) (HB : Bs w B m ys) (hm : m ≤ 10000) (h2 : lb.size ≤ 100) (hk : k ≤ 8160) :
    Calls Try.prog 28 #[.slice N p q, .slice A n c, .string lb, .slice B m d, .int .i64 (k : Int)] w fun e w' => ∃ A' c', e = .returned (.slice A' k c') ∧ Bs w' A' k (Hk.exp (strB nm) xs lb ys k) ∧ Ext w w' := by
  have E := Ext.refl w
  refine vc_enter1 29 Try.func28 rfl rfl rfl rfl ?_
  intro Q hret
  refine wc_seq ?_; intro K1 hK1
  refine wc_region ?_
  refine wl_y (y_assign rfl) rfl ?_
  refine wl_nil ?_
  refine wq_then_norm (hK1 ?_)
  refine wc_seq ?_; intro K2 hK2
  refine wc_region ?_
  refine wl_y (y_move rfl) rfl ?_
  refine wl_y (y_conv rfl Try.underlying3 Try.underlying52 (IntWalk.u64_in _ ⟨by omega, by omega⟩)) rfl ?_
  refine wl_call Try.func49 rfl rfl rfl (refNum_any 2 k _ (by omega) (by omega)) rfl ?_
  rintro e w1 ⟨A1, c1, rfl, R1, ex⟩
  refine ⟨_, rfl, ?_⟩
  replace HN := HN.ext ex
  replace HA := HA.ext ex
  replace HB := HB.ext ex
  replace E := E.ext ex
  have H1 := R1.bs
  refine wl_ef (ef_litX (z := .int .u8 0) Try.underlying22 (by kernel_rfl) rfl rfl rfl rfl rfl) rfl ?_
  rintro _ _ ⟨rfl, rfl⟩
  skip
  refine wl_ef (ef_mark rfl Try.underlying22 Try.underlying5) rfl ?_
  rintro _ w2 ⟨rfl, hw2⟩
  have ex := show Ext w1 w2 from by rw [hw2]; exact Ext.alloc _ _
  replace HN := HN.ext ex
  replace HA := HA.ext ex
  replace HB := HB.ext ex
  replace E := E.ext ex
  replace H1 := H1.ext ex
  have S2 : Bs w2 (some ⟨w1.heap.size, 0, none⟩) 7 [72, 80, 75, 69, 45, 118, 49] := by rw [hw2]; exact bs_marked (cs := [.int .u8 72, .int .u8 80, .int .u8 75, .int .u8 69, .int .u8 45, .int .u8 118, .int .u8 49]) rfl
  clear hw2 
  refine wl_call Try.func38 rfl rfl rfl (hjoin_any A1 _ 2 c1 7 7 _ _ _ H1 (by omega) S2 (by omega)) rfl ?_
  rintro e w3 ⟨A3, k3, c3, rfl, R3, hk3, ex⟩
  refine ⟨_, rfl, ?_⟩
  replace HN := HN.ext ex
  replace HA := HA.ext ex
  replace HB := HB.ext ex
  replace E := E.ext ex
  replace H1 := H1.ext ex
  replace S2 := S2.ext ex
  have H3 := R3.bs
  refine wl_y (y_assign rfl) rfl ?_
  refine wl_nil ?_
  refine wq_then_norm (hK2 ?_)
  refine wc_seq ?_; intro K3 hK3
  refine wc_region ?_
  refine wl_y (y_move rfl) rfl ?_
  refine wl_y (y_move rfl) rfl ?_
  refine wl_y (y_move rfl) rfl ?_
  refine wl_call Try.func38 rfl rfl rfl (hjoin_any A3 N k3 c3 p q _ nm _ H3 (by omega) HN (by omega)) rfl ?_
  rintro e w4 ⟨A4, k4, c4, rfl, R4, hk4, ex⟩
  refine ⟨_, rfl, ?_⟩
  replace HN := HN.ext ex
  replace HA := HA.ext ex
  replace HB := HB.ext ex
  replace E := E.ext ex
  replace H1 := H1.ext ex
  replace S2 := S2.ext ex
  replace H3 := H3.ext ex
  have H4 := R4.bs
  refine wl_y (y_move rfl) rfl ?_
  refine wl_ef (ef_str rfl Try.underlying9 Try.underlying22 Try.underlying5) rfl ?_
  rintro _ w5 ⟨g5, c5, rfl, H5, hg5, ex⟩
  replace HN := HN.ext ex
  replace HA := HA.ext ex
  replace HB := HB.ext ex
  replace E := E.ext ex
  replace H1 := H1.ext ex
  replace S2 := S2.ext ex
  replace H3 := H3.ext ex
  replace H4 := H4.ext ex
  skip
  refine wl_y (y_move rfl) rfl ?_
  refine wl_call Try.func38 rfl rfl rfl (hjoin_any _ B lb.size c5 m d _ ys _ H5 (by omega) HB (by omega)) rfl ?_
  rintro e w6 ⟨A6, k6, c6, rfl, R6, hk6, ex⟩
  refine ⟨_, rfl, ?_⟩
  replace HN := HN.ext ex
  replace HA := HA.ext ex
  replace HB := HB.ext ex
  replace E := E.ext ex
  replace H1 := H1.ext ex
  replace S2 := S2.ext ex
  replace H3 := H3.ext ex
  replace H4 := H4.ext ex
  replace H5 := H5.ext ex
  have H6 := R6.bs
  refine wl_call Try.func38 rfl rfl rfl (hjoin_any A4 A6 k4 c4 k6 c6 _ _ _ H4 (by omega) H6 (by omega)) rfl ?_
  rintro e w7 ⟨A7, k7, c7, rfl, R7, hk7, ex⟩
  refine ⟨_, rfl, ?_⟩
  replace HN := HN.ext ex
  replace HA := HA.ext ex
  replace HB := HB.ext ex
  replace E := E.ext ex
  replace H1 := H1.ext ex
  replace S2 := S2.ext ex
  replace H3 := H3.ext ex
  replace H4 := H4.ext ex
  replace H5 := H5.ext ex
  replace H6 := H6.ext ex
  have H7 := R7.bs
  refine wl_y (y_move rfl) rfl ?_
  refine wl_call Try.func50 rfl rfl rfl (refExpand_any A A7 n c k7 c7 k xs _ _ HA (by omega) H7 (by omega) hk) rfl ?_
  rintro e w8 ⟨A8, c8, rfl, H8, ex⟩
  refine ⟨_, rfl, ?_⟩
  replace HN := HN.ext ex
  replace HA := HA.ext ex
  replace HB := HB.ext ex
  replace E := E.ext ex
  replace H1 := H1.ext ex
  replace S2 := S2.ext ex
  replace H3 := H3.ext ex
  replace H4 := H4.ext ex
  replace H5 := H5.ext ex
  replace H6 := H6.ext ex
  replace H7 := H7.ext ex
  rw [exp_eq] at H8
  refine wl_y (y_assign rfl) rfl ?_
  refine wl_nil ?_
  refine wq_then_norm (hK3 ?_)
  refine wc_ret ?_
  refine hret rfl ?_
  exact ⟨A8, c8, rfl, H8, E⟩
theorem rpairs_any (w : World) : Calls Try.prog 29 #[] w fun e w' => ∃ g, e = .returned (.slice (some ⟨g, 0, none⟩) 5 5) ∧ Bs w' (some ⟨g, 0, none⟩) 5 [75, 69, 77, 0, 32] ∧ Ext w w' := by
  have E := Ext.refl w
  refine vc_enter1 2 Try.func29 rfl rfl rfl rfl ?_
  intro Q hret
  refine wc_seq ?_; intro K1 hK1
  refine wc_region ?_
  refine wl_y (y_assign rfl) rfl ?_
  refine wl_nil ?_
  refine wq_then_norm (hK1 ?_)
  refine wc_seq ?_; intro K2 hK2
  refine wc_region ?_
  refine wl_ef (ef_lit (z := .int .u8 0) Try.underlying22 (by kernel_rfl) rfl rfl rfl rfl rfl) rfl ?_
  rintro _ w1 ⟨g1, rfl, D1, hg1, ex⟩
  replace E := E.ext ex
  have H1 := bs_blk' (xs := [75, 69, 77, 0, 32]) (D1.congr rfl) rfl
  refine wl_y (y_assign rfl) rfl ?_
  refine wl_nil ?_
  refine wq_then_norm (hK2 ?_)
  refine wc_ret ?_
  refine hret rfl ?_
  exact ⟨g1, rfl, H1, E⟩
end Go.Proofs.Ytjllhimhiekchaa
