/- sched's transcripts, tags, locks and exports, and the reference's: what they hand back; the laws SchedTags, SchedExports. -/
import Derived.Test.YtopbahbhldgbbaaSecD
namespace Go.Proofs.Ytopbahbhldgbbaa
open Go.RowKit
attribute [local irreducible] Y Ef WL WC WK WQ WM OpM WN WF OpN
def sExported : ByteArray := ⟨#[101, 120, 112, 111, 114, 116, 101, 100]⟩
def sKey : ByteArray := ⟨#[107, 101, 121]⟩
def sNonce : ByteArray := ⟨#[110, 111, 110, 99, 101]⟩
theorem sconf_any (A B : Option Addr) (n c m d : Nat) (xs ys : List UInt8) (w : World) (HA : Bs w A n xs) (HB : Bs w B m ys) (hn : n ≤ 1000) (hm : m ≤ 1000) :
    Calls Try.prog 29 #[.slice A n c, .slice B m d] w fun e w' => ∃ A' c', e = .returned (.slice A' 32 c') ∧ Bs w' A' 32 (Sha.sum (xs ++ ys)) ∧ Ext w w' := by
  have hx := HA.1; have hy := HB.1
  refine vc_enter1 9 Try.func29 rfl rfl rfl rfl ?_
  intro Q hret
  refine wc_seq ?_; intro K1 hK1
  refine wc_region ?_
  refine wl_y (y_assign rfl) rfl ?_
  refine wl_nil ?_
  refine wq_then_norm (hK1 ?_)
  refine wc_seq ?_; intro K2 hK2
  refine wc_region ?_
  refine wl_y (y_move rfl) rfl ?_
  refine wl_y (y_move rfl) rfl ?_
  refine wl_ef (ef_lit (z := .slice none 0 0) Try.underlying22 (by kernel_rfl) rfl rfl rfl rfl rfl) rfl ?_
  rintro _ w1 ⟨g1, rfl, B1, hg1, ex⟩
  replace HA := HA.ext ex
  replace HB := HB.ext ex
  have E1 := ex
  refine wl_call Try.func17 rfl rfl rfl (of_any _ 2 2 [xs, ys] _ (bss_two B1 HA HB) (by omega) (by simp; omega)) rfl ?_
  rintro e w2 ⟨g2, rfl, hg2, B2, ex⟩
  refine ⟨_, rfl, ?_⟩
  replace HA := HA.ext ex
  replace HB := HB.ext ex
  have E2 := E1.ext ex
  refine wl_y (y_assign rfl) rfl ?_
  refine wl_nil ?_
  refine wq_then_norm (hK2 ?_)
  refine wc_ret ?_
  refine hret rfl ?_
  exact ⟨_, 32, rfl, by have := bs_blk' B2 (Sha.sum_length _); simpa using this, E2⟩
theorem sinter_any (A B : Option Addr) (n c m d : Nat) (xs ys : List UInt8) (w : World) (HA : Bs w A n xs) (HB : Bs w B m ys) (hn : n ≤ 1000) (hm : m ≤ 1000) :
    Calls Try.prog 31 #[.slice A n c, .slice B m d] w fun e w' => ∃ A' c', e = .returned (.slice A' 32 c') ∧ Bs w' A' 32 (Sha.sum (xs ++ Wire.vec ys)) ∧ Ext w w' := by
  have hx := HA.1; have hy := HB.1
  have hl := Wire.lsz_le m
  refine vc_enter1 10 Try.func31 rfl rfl rfl rfl ?_
  intro Q hret
  refine wc_seq ?_; intro K1 hK1
  refine wc_region ?_
  refine wl_y (y_assign rfl) rfl ?_
  refine wl_nil ?_
  refine wq_then_norm (hK1 ?_)
  refine wc_seq ?_; intro K2 hK2
  refine wc_region ?_
  refine wl_y (y_move rfl) rfl ?_
  refine wl_y (y_move rfl) rfl ?_
  refine wl_call Try.func62 rfl rfl rfl (putVec_any none B 0 0 m d [] ys _ (Bs.nil _ _) (by omega) HB (by omega)) rfl ?_
  rintro e w0 ⟨A0, k0, c0, rfl, R0, hk0, ex⟩
  refine ⟨_, rfl, ?_⟩
  replace HA := HA.ext ex
  replace HB := HB.ext ex
  have E0 := ex; have H0 := R0.bs; rw [List.nil_append] at H0
  refine wl_ef (ef_lit (z := .slice none 0 0) Try.underlying22 (by kernel_rfl) rfl rfl rfl rfl rfl) rfl ?_
  rintro _ w1 ⟨g1, rfl, B1, hg1, ex⟩
  replace HA := HA.ext ex
  replace HB := HB.ext ex
  replace H0 := H0.ext ex
  have E1 := E0.ext ex; have hl0 := H0.1
  refine wl_call Try.func17 rfl rfl rfl (of_any _ 2 2 [xs, Wire.vec ys] _ (bss_two B1 HA H0) (by omega) (by simp; omega)) rfl ?_
  rintro e w2 ⟨g2, rfl, hg2, B2, ex⟩
  refine ⟨_, rfl, ?_⟩
  replace HA := HA.ext ex
  replace HB := HB.ext ex
  replace H0 := H0.ext ex
  have E2 := E1.ext ex
  refine wl_y (y_assign rfl) rfl ?_
  refine wl_nil ?_
  refine wq_then_norm (hK2 ?_)
  refine wc_ret ?_
  refine hret rfl ?_
  exact ⟨_, 32, rfl, by have := bs_blk' B2 (Sha.sum_length _); simpa using this, E2⟩
theorem stag_any (cs : Array Value) (l : List (List UInt8)) (B : Option Addr) (m d : Nat) (ys : List UInt8) (w : World) (HS : SecAt w cs l) (hl : (l.getD 8 []).length ≤ 1000) (HB : Bs w B m ys) (hm : m ≤ 1000) :
    Calls Try.prog 33 #[.agg cs, .slice B m d] w fun e w' => ∃ A' c', e = .returned (.slice A' 32 c') ∧ Bs w' A' 32 (Mac.tag (l.getD 8 []) ys) ∧ Ext w w' := by
  have hy := HB.1
  obtain ⟨A8, n8, c8, q8, H8⟩ := HS.get (i := 8) (by omega)
  have hz := H8.1
  refine vc_enter1 10 Try.func33 rfl rfl rfl rfl ?_
  intro Q hret
  refine wc_seq ?_; intro K1 hK1
  refine wc_region ?_
  refine wl_ef (ef_box (cs := cs) rfl rfl) rfl ?_
  rintro _ w0 ⟨g0, rfl, B0, hg0, ex⟩
  replace HB := HB.ext ex
  replace H8 := H8.ext ex
  have E0 := ex
  refine wl_y (y_assign rfl) rfl ?_
  refine wl_nil ?_
  refine wq_then_norm (hK1 ?_)
  refine wc_seq ?_; intro K2 hK2
  refine wc_region ?_
  refine wl_y (y_fieldAddr (o := 8) (s := 1) (off := 0) (o' := 8) rfl Try.underlying42 rfl (by kernel_rfl) rfl rfl) rfl ?_
  refine wl_y (y_load1 rfl Try.underlying24 rfl (B0.get q8)) rfl ?_
  refine wl_y (y_move rfl) rfl ?_
  refine wl_ef (ef_lit (z := .slice none 0 0) Try.underlying22 (by kernel_rfl) rfl rfl rfl rfl rfl) rfl ?_
  rintro _ w1 ⟨g1, rfl, B1, hg1, ex⟩
  replace HB := HB.ext ex
  replace H8 := H8.ext ex
  have E1 := E0.ext ex
  refine wl_call Try.func64 rfl rfl rfl (tag_any A8 _ n8 c8 1 1 _ _ _ H8 (by omega) (bss_one B1 HB) (by omega) (by simp; omega)) rfl ?_
  rintro e w2 ⟨g2, rfl, hg2, B2, ex⟩
  refine ⟨_, rfl, ?_⟩
  replace HB := HB.ext ex
  replace H8 := H8.ext ex
  have E2 := E1.ext ex
  refine wl_y (y_assign rfl) rfl ?_
  refine wl_nil ?_
  refine wq_then_norm (hK2 ?_)
  refine wc_ret ?_
  refine hret rfl ?_
  exact ⟨_, 32, rfl, by have := bs_blk' B2 (Mac.tag_length _ _); simpa using this, E2⟩
theorem smember_any (cs : Array Value) (l : List (List UInt8)) (B : Option Addr) (m d : Nat) (ys : List UInt8) (w : World) (HS : SecAt w cs l) (hl : (l.getD 9 []).length ≤ 1000) (HB : Bs w B m ys) (hm : m ≤ 1000) :
    Calls Try.prog 35 #[.agg cs, .slice B m d] w fun e w' => ∃ A' c', e = .returned (.slice A' 32 c') ∧ Bs w' A' 32 (Mac.tag (l.getD 9 []) ys) ∧ Ext w w' := by
  have hy := HB.1
  obtain ⟨A8, n8, c8, q8, H8⟩ := HS.get (i := 9) (by omega)
  have hz := H8.1
  refine vc_enter1 10 Try.func35 rfl rfl rfl rfl ?_
  intro Q hret
  refine wc_seq ?_; intro K1 hK1
  refine wc_region ?_
  refine wl_ef (ef_box (cs := cs) rfl rfl) rfl ?_
  rintro _ w0 ⟨g0, rfl, B0, hg0, ex⟩
  replace HB := HB.ext ex
  replace H8 := H8.ext ex
  have E0 := ex
  refine wl_y (y_assign rfl) rfl ?_
  refine wl_nil ?_
  refine wq_then_norm (hK1 ?_)
  refine wc_seq ?_; intro K2 hK2
  refine wc_region ?_
  refine wl_y (y_fieldAddr (o := 9) (s := 1) (off := 0) (o' := 9) rfl Try.underlying42 rfl (by kernel_rfl) rfl rfl) rfl ?_
  refine wl_y (y_load1 rfl Try.underlying24 rfl (B0.get q8)) rfl ?_
  refine wl_y (y_move rfl) rfl ?_
  refine wl_ef (ef_lit (z := .slice none 0 0) Try.underlying22 (by kernel_rfl) rfl rfl rfl rfl rfl) rfl ?_
  rintro _ w1 ⟨g1, rfl, B1, hg1, ex⟩
  replace HB := HB.ext ex
  replace H8 := H8.ext ex
  have E1 := E0.ext ex
  refine wl_call Try.func64 rfl rfl rfl (tag_any A8 _ n8 c8 1 1 _ _ _ H8 (by omega) (bss_one B1 HB) (by omega) (by simp; omega)) rfl ?_
  rintro e w2 ⟨g2, rfl, hg2, B2, ex⟩
  refine ⟨_, rfl, ?_⟩
  replace HB := HB.ext ex
  replace H8 := H8.ext ex
  have E2 := E1.ext ex
  refine wl_y (y_assign rfl) rfl ?_
  refine wl_nil ?_
  refine wq_then_norm (hK2 ?_)
  refine wc_ret ?_
  refine hret rfl ?_
  exact ⟨_, 32, rfl, by have := bs_blk' B2 (Mac.tag_length _ _); simpa using this, E2⟩
theorem join23_any (A B : Option Addr) (n c m d : Nat) (xs ys : List UInt8) (w : World) (HA : Bs w A n xs) (hn : n ≤ 35184372088832) (HB : Bs w B m ys) (hm : m ≤ 35184372088832) :
    Calls Try.prog 61 #[.slice A n c, .slice B m d] w fun e w' => ∃ A' c', e = .returned (.slice A' (n + m) c') ∧ Row w' w.heap.size 5 A' (n + m) c' ((xs ++ ys).map bv) ∧ Ext w w' := by
  refine vc_enter1 10 Try.func61 rfl rfl rfl rfl ?_
  intro Q hret
  refine wc_seq ?_; intro K1 hK1
  refine wc_region ?_
  refine wl_y (y_assign rfl) rfl ?_
  refine wl_nil ?_
  refine wq_then_norm (hK1 ?_)
  refine wc_seq ?_; intro K2 hK2
  refine wc_region ?_
  refine wl_ef (ef_lit (z := .int .u8 0) Try.underlying24 (by kernel_rfl) rfl rfl rfl rfl rfl) rfl ?_
  rintro _ w1 ⟨g1, rfl, B1, hg1, ex⟩
  have E1 := ex; have R1 : Row w1 w.heap.size 5 (some ⟨g1, 0, none⟩) 0 0 [] := Row.new B1 hg1 rfl (by unfold maxLen; omega)
  refine wl_y (y_move rfl) rfl ?_
  refine wl_ef (ef_app0 rfl rfl eltB R1 (HA.ext E1).2 (by rw [List.length_map, HA.1]) (by intro u hu; exact bv_one u hu) (by omega) (by omega) E1.size) rfl ?_
  rintro _ w2 ⟨A2, c2, rfl, R2, be, gr, hl⟩
  have E2 := E1.trans be
  refine wl_y (y_move rfl) rfl ?_
  refine wl_ef (ef_app rfl rfl eltB R2 (HB.ext E2).2 (by rw [List.length_map, HB.1]) (by intro u hu; exact bv_one u hu) (by omega) (by omega) E2.size) rfl ?_
  rintro _ w3 ⟨A3, c3, rfl, R3, be, gr, hl⟩
  have E3 := E2.trans be
  refine wl_y (y_assign rfl) rfl ?_
  refine wl_nil ?_
  refine wq_then_norm (hK2 ?_)
  refine wc_ret ?_
  refine hret rfl ?_
  exact ⟨A3, c3, rfl, R3.cat, E3⟩
theorem rconf_any (A B : Option Addr) (n c m d : Nat) (xs ys : List UInt8) (w : World) (HA : Bs w A n xs) (HB : Bs w B m ys) (hn : n ≤ 1000) (hm : m ≤ 1000) :
    Calls Try.prog 30 #[.slice A n c, .slice B m d] w fun e w' => ∃ A' c', e = .returned (.slice A' 32 c') ∧ Bs w' A' 32 (Sha.sum (xs ++ ys)) ∧ Ext w w' := by
  refine vc_enter1 9 Try.func30 rfl rfl rfl rfl ?_
  intro Q hret
  refine wc_seq ?_; intro K1 hK1
  refine wc_region ?_
  refine wl_y (y_assign rfl) rfl ?_
  refine wl_nil ?_
  refine wq_then_norm (hK1 ?_)
  refine wc_seq ?_; intro K2 hK2
  refine wc_region ?_
  refine wl_y (y_move rfl) rfl ?_
  refine wl_y (y_move rfl) rfl ?_
  refine wl_call Try.func61 rfl rfl rfl (join23_any A B n c m d xs ys _ HA (by omega) HB (by omega)) rfl ?_
  rintro e w1 ⟨A1, c1, rfl, R1, ex⟩
  refine ⟨_, rfl, ?_⟩
  have E1 := ex
  refine wl_call Try.func54 rfl rfl rfl (digest_any A1 _ c1 _ _ R1.bs (by omega)) rfl ?_
  rintro e w2 ⟨A2, c2, rfl, O2, ex⟩
  refine ⟨_, rfl, ?_⟩
  have E2 := E1.ext ex
  refine wl_y (y_assign rfl) rfl ?_
  refine wl_nil ?_
  refine wq_then_norm (hK2 ?_)
  refine wc_ret ?_
  refine hret rfl ?_
  exact ⟨A2, c2, rfl, O2.bs, E2⟩
theorem rinter_any (A B : Option Addr) (n c m d : Nat) (xs ys : List UInt8) (w : World) (HA : Bs w A n xs) (HB : Bs w B m ys) (hn : n ≤ 1000) (hm : m ≤ 1000) :
    Calls Try.prog 32 #[.slice A n c, .slice B m d] w fun e w' => ∃ A' c', e = .returned (.slice A' 32 c') ∧ Bs w' A' 32 (Sha.sum (xs ++ Wire.vec ys)) ∧ Ext w w' := by
  have hl := Wire.lsz_le m
  refine vc_enter1 10 Try.func32 rfl rfl rfl rfl ?_
  intro Q hret
  refine wc_seq ?_; intro K1 hK1
  refine wc_region ?_
  refine wl_y (y_assign rfl) rfl ?_
  refine wl_nil ?_
  refine wq_then_norm (hK1 ?_)
  refine wc_seq ?_; intro K2 hK2
  refine wc_region ?_
  refine wl_y (y_move rfl) rfl ?_
  refine wl_y (y_move rfl) rfl ?_
  refine wl_call Try.func63 rfl rfl rfl (refVec_any B m d ys _ HB (by omega)) rfl ?_
  rintro e w0 ⟨A0, k0, c0, rfl, R0, hk0, ex⟩
  refine ⟨_, rfl, ?_⟩
  replace HA := HA.ext ex
  have E0 := ex
  refine wl_call Try.func61 rfl rfl rfl (join23_any A A0 n c k0 c0 xs _ _ HA (by omega) R0.bs (by omega)) rfl ?_
  rintro e w1 ⟨A1, c1, rfl, R1, ex⟩
  refine ⟨_, rfl, ?_⟩
  replace HA := HA.ext ex
  have E1 := E0.ext ex
  refine wl_call Try.func54 rfl rfl rfl (digest_any A1 _ c1 _ _ R1.bs (by omega)) rfl ?_
  rintro e w2 ⟨A2, c2, rfl, O2, ex⟩
  refine ⟨_, rfl, ?_⟩
  replace HA := HA.ext ex
  have E2 := E1.ext ex
  refine wl_y (y_assign rfl) rfl ?_
  refine wl_nil ?_
  refine wq_then_norm (hK2 ?_)
  refine wc_ret ?_
  refine hret rfl ?_
  exact ⟨A2, c2, rfl, O2.bs, E2⟩
theorem schedTags_law (cs : Array Value) (l : List (List UInt8)) (A : Option Addr) (n c : Nat) (xs : List UInt8) (B : Option Addr) (m d : Nat) (ys : List UInt8) (w : World) (HS : SecAt w cs l) (hm0 : ∀ i, (l.getD i []).length ≤ maxLen) (HA : Bs w A n xs) (hn : n ≤ maxLen) (HB : Bs w B m ys) (hm : m ≤ maxLen) :
    Calls Try.prog 7 #[.agg cs, .slice A n c, .slice B m d] w fun e w' => e = .returned (.bool true) ∧ Below w.heap.size w w' := by
  have hz := HS.size
  have hx := HA.1; have hy := HB.1
  have hm8 := hm0 8; have hm9 := hm0 9
  unfold maxLen at hn hm hm8 hm9
  have E := Ext.refl w
  obtain ⟨A8, n8, c8, q8, H8⟩ := HS.get (i := 8) (by omega)
  obtain ⟨A9, n9, c9, q9, H9⟩ := HS.get (i := 9) (by omega)
  have z8 := H8.1; have z9 := H9.1
  refine vc_enter1 65 Try.func7 rfl rfl rfl rfl ?_
  intro Q hret
  refine wc_seq ?_; intro K1 hK1
  refine wc_region ?_
  refine wl_ef (ef_box (cs := cs) rfl rfl) rfl ?_
  rintro _ w0 ⟨g1, rfl, B1, hg1, ex⟩
  replace HA := HA.ext ex
  replace HB := HB.ext ex
  replace E := E.ext ex
  replace HS := HS.ext ex
  replace H8 := H8.ext ex
  replace H9 := H9.ext ex
  skip
  refine wl_y (y_assign rfl) rfl ?_
  refine wl_nil ?_
  refine wq_then_norm (hK1 ?_)
  refine wc_seq ?_; intro K2 hK2
  refine wc_seq ?_; intro K3 hK3
  refine wc_region ?_
  refine wl_call Try.func18 rfl rfl rfl (alive23_any _) rfl ?_
  rintro e w1 ⟨rfl, ex⟩
  refine ⟨_, rfl, ?_⟩
  replace HA := HA.ext ex
  replace HB := HB.ext ex
  replace E := E.ext ex
  replace HS := HS.ext ex
  replace H8 := H8.ext ex
  replace H9 := H9.ext ex
  replace B1 := B1.ext ex
  refine wl_y (y_not rfl) rfl ?_
  refine wl_nil ?_
  refine wq_then_norm (hK3 ?_)
  refine wc_false rfl rfl ?_
  refine wc_skip ?_
  refine wq_then_norm (hK2 ?_)
  refine wc_seq ?_; intro K4 hK4
  refine wc_seq ?_; intro K5 hK5
  refine wc_region ?_
  refine wl_y (y_fieldAddr (o := 8) (s := 1) (off := 0) (o' := 8) rfl Try.underlying42 rfl (by kernel_rfl) rfl rfl) rfl ?_
  refine wl_y (y_load1 rfl Try.underlying24 rfl (B1.get q8)) rfl ?_
  refine wl_y (y_len_slice rfl Try.underlying24) rfl ?_
  refine wl_yask (y_gtr rfl rfl) rfl (fun h1 => ?_) (fun h1 => ?_)
  · skip
    refine wl_y (y_move rfl) rfl ?_
    refine wl_gno 13 rfl rfl rfl rfl ?_
    refine wl_gno 13 rfl rfl rfl rfl ?_
    refine wl_gno 13 rfl rfl rfl rfl ?_
    refine wl_gno 13 rfl rfl rfl rfl ?_
    refine wl_y (y_pickt rfl rfl) rfl ?_
    refine wl_y (y_move rfl) rfl ?_
    refine wl_gno 19 rfl rfl rfl rfl ?_
    refine wl_gno 19 rfl rfl rfl rfl ?_
    refine wl_gno 19 rfl rfl rfl rfl ?_
    refine wl_y (y_pickt rfl rfl) rfl ?_
    refine wl_y (y_move rfl) rfl ?_
    refine wl_gno 24 rfl rfl rfl rfl ?_
    refine wl_gno 24 rfl rfl rfl rfl ?_
    refine wl_gno 24 rfl rfl rfl rfl ?_
    refine wl_y (y_pickt rfl rfl) rfl ?_
    refine wl_nil ?_
    refine wq_then_norm (hK5 ?_)
    refine wc_true rfl rfl ?_
    refine wc_seq ?_; intro K6 hK6
    refine wc_region ?_
    refine wl_y (y_assign rfl) rfl ?_
    refine wl_nil ?_
    refine wq_then_norm (hK6 ?_)
    refine wc_ret ?_
    refine wq_then_ret ?_
    refine hret rfl ?_
    exact ⟨rfl, E⟩
  · skip
    refine wl_y (y_move rfl) rfl ?_
    refine wl_gy 13 rfl rfl (y_fieldAddr (o := 9) (s := 1) (off := 0) (o' := 9) rfl Try.underlying42 rfl (by kernel_rfl) rfl rfl) rfl ?_
    refine wl_gy 13 rfl rfl (y_load1 rfl Try.underlying24 rfl (B1.get q9)) rfl ?_
    refine wl_gy 13 rfl rfl (y_len_slice rfl Try.underlying24) rfl ?_
    refine wl_gyask 13 rfl rfl (y_gtr rfl rfl) rfl (fun h2 => ?_) (fun h2 => ?_)
    · skip
      refine wl_y (y_pickf rfl rfl) rfl ?_
      refine wl_y (y_move rfl) rfl ?_
      refine wl_gno 19 rfl rfl rfl rfl ?_
      refine wl_gno 19 rfl rfl rfl rfl ?_
      refine wl_gno 19 rfl rfl rfl rfl ?_
      refine wl_y (y_pickt rfl rfl) rfl ?_
      refine wl_y (y_move rfl) rfl ?_
      refine wl_gno 24 rfl rfl rfl rfl ?_
      refine wl_gno 24 rfl rfl rfl rfl ?_
      refine wl_gno 24 rfl rfl rfl rfl ?_
      refine wl_y (y_pickt rfl rfl) rfl ?_
      refine wl_nil ?_
      refine wq_then_norm (hK5 ?_)
      refine wc_true rfl rfl ?_
      refine wc_seq ?_; intro K7 hK7
      refine wc_region ?_
      refine wl_y (y_assign rfl) rfl ?_
      refine wl_nil ?_
      refine wq_then_norm (hK7 ?_)
      refine wc_ret ?_
      refine wq_then_ret ?_
      refine hret rfl ?_
      exact ⟨rfl, E⟩
    · skip
      refine wl_y (y_pickf rfl rfl) rfl ?_
      refine wl_y (y_move rfl) rfl ?_
      refine wl_gy 19 rfl rfl (y_move rfl) rfl ?_
      refine wl_gy 19 rfl rfl (y_len_slice rfl Try.underlying24) rfl ?_
      refine wl_gyask 19 rfl rfl (y_gtr rfl rfl) rfl (fun h3 => ?_) (fun h3 => ?_)
      · skip
        refine wl_y (y_pickf rfl rfl) rfl ?_
        refine wl_y (y_move rfl) rfl ?_
        refine wl_gno 24 rfl rfl rfl rfl ?_
        refine wl_gno 24 rfl rfl rfl rfl ?_
        refine wl_gno 24 rfl rfl rfl rfl ?_
        refine wl_y (y_pickt rfl rfl) rfl ?_
        refine wl_nil ?_
        refine wq_then_norm (hK5 ?_)
        refine wc_true rfl rfl ?_
        refine wc_seq ?_; intro K8 hK8
        refine wc_region ?_
        refine wl_y (y_assign rfl) rfl ?_
        refine wl_nil ?_
        refine wq_then_norm (hK8 ?_)
        refine wc_ret ?_
        refine wq_then_ret ?_
        refine hret rfl ?_
        exact ⟨rfl, E⟩
      · skip
        refine wl_y (y_pickf rfl rfl) rfl ?_
        refine wl_y (y_move rfl) rfl ?_
        refine wl_gy 24 rfl rfl (y_move rfl) rfl ?_
        refine wl_gy 24 rfl rfl (y_len_slice rfl Try.underlying24) rfl ?_
        refine wl_gyask 24 rfl rfl (y_gtr rfl rfl) rfl (fun h4 => ?_) (fun h4 => ?_)
        · skip
          refine wl_y (y_pickf rfl rfl) rfl ?_
          refine wl_nil ?_
          refine wq_then_norm (hK5 ?_)
          refine wc_true rfl rfl ?_
          refine wc_seq ?_; intro K9 hK9
          refine wc_region ?_
          refine wl_y (y_assign rfl) rfl ?_
          refine wl_nil ?_
          refine wq_then_norm (hK9 ?_)
          refine wc_ret ?_
          refine wq_then_ret ?_
          refine hret rfl ?_
          exact ⟨rfl, E⟩
        · skip
          refine wl_y (y_pickf rfl rfl) rfl ?_
          refine wl_nil ?_
          refine wq_then_norm (hK5 ?_)
          refine wc_false rfl rfl ?_
          refine wc_skip ?_
          refine wq_then_norm (hK4 ?_)
          refine wc_seq ?_; intro K10 hK10
          refine wc_draw (by kernel_rfl) 37 rfl ?_; intro wd5 ex hd5
          replace HA := HA.ext ex
          replace HB := HB.ext ex
          replace E := E.ext ex
          replace HS := HS.ext ex
          replace H8 := H8.ext ex
          replace H9 := H9.ext ex
          replace B1 := B1.ext ex
          refine wm_y 0 rfl (by kernel_rfl) (y_move rfl) rfl ?_
          refine wm_y 1 rfl (by kernel_rfl) (y_move rfl) rfl ?_
          refine wm_y 3 rfl (by kernel_rfl) (y_move rfl) rfl ?_
          refine wm_y 4 rfl (by kernel_rfl) (y_move rfl) rfl ?_
          refine wm_one 2 (by kernel_rfl) ?_; refine om_call rfl Try.func29 rfl rfl rfl (sconf_any A B n c m d xs ys _ HA HB (by omega) (by omega)) rfl ?_
          rintro e w2 ⟨A2, c2, rfl, H2, ex⟩
          refine ⟨_, rfl, .inr ex, ?_⟩
          replace HA := HA.ext ex
          replace HB := HB.ext ex
          replace E := E.ext ex
          replace HS := HS.ext ex
          replace H8 := H8.ext ex
          replace H9 := H9.ext ex
          replace B1 := B1.ext ex
          skip
          refine wm_one 5 (by kernel_rfl) ?_; refine om_call rfl Try.func30 rfl rfl rfl (rconf_any A B n c m d xs ys _ HA HB (by omega) (by omega)) rfl ?_
          rintro e w3 ⟨A3, c3, rfl, H3, ex⟩
          refine ⟨_, rfl, .inr ex, ?_⟩
          replace HA := HA.ext ex
          replace HB := HB.ext ex
          replace E := E.ext ex
          replace HS := HS.ext ex
          replace H8 := H8.ext ex
          replace H9 := H9.ext ex
          replace B1 := B1.ext ex
          replace H2 := H2.ext ex
          skip
          refine wm_one 6 (by kernel_rfl) ?_; refine om_call rfl Try.func14 rfl rfl rfl (sameX_any _ _ 32 32 _ _ _ _ _ H2 H3 (by omega) (by omega)) rfl ?_
          rintro e w4 ⟨rfl, ex⟩
          refine ⟨_, rfl, .inr ex, ?_⟩
          replace HA := HA.ext ex
          replace HB := HB.ext ex
          replace E := E.ext ex
          replace HS := HS.ext ex
          replace H8 := H8.ext ex
          replace H9 := H9.ext ex
          replace B1 := B1.ext ex
          replace H2 := H2.ext ex
          rw [decide_eq_true rfl]
          refine wm_y 7 rfl (by kernel_rfl) (y_move rfl) rfl ?_
          refine wm_gy 8 rfl (by kernel_rfl) 36 rfl rfl (y_move rfl) rfl ?_
          refine wm_gy 9 rfl (by kernel_rfl) 36 rfl rfl (y_move rfl) rfl ?_
          refine wm_gy 11 rfl (by kernel_rfl) 36 rfl rfl (y_move rfl) rfl ?_
          refine wm_gy 12 rfl (by kernel_rfl) 36 rfl rfl (y_move rfl) rfl ?_
          refine wm_one 10 (by kernel_rfl) ?_; refine om_gcall rfl 36 rfl rfl Try.func31 rfl rfl rfl (sinter_any A B n c m d xs ys _ HA HB (by omega) (by omega)) rfl ?_
          rintro e w5 ⟨A5, c5, rfl, H5, ex⟩
          refine ⟨_, rfl, .inr ex, ?_⟩
          replace HA := HA.ext ex
          replace HB := HB.ext ex
          replace E := E.ext ex
          replace HS := HS.ext ex
          replace H8 := H8.ext ex
          replace H9 := H9.ext ex
          replace B1 := B1.ext ex
          skip
          refine wm_one 13 (by kernel_rfl) ?_; refine om_gcall rfl 36 rfl rfl Try.func32 rfl rfl rfl (rinter_any A B n c m d xs ys _ HA HB (by omega) (by omega)) rfl ?_
          rintro e w6 ⟨A6, c6, rfl, H6, ex⟩
          refine ⟨_, rfl, .inr ex, ?_⟩
          replace HA := HA.ext ex
          replace HB := HB.ext ex
          replace E := E.ext ex
          replace HS := HS.ext ex
          replace H8 := H8.ext ex
          replace H9 := H9.ext ex
          replace B1 := B1.ext ex
          replace H5 := H5.ext ex
          skip
          refine wm_one 14 (by kernel_rfl) ?_; refine om_gcall rfl 36 rfl rfl Try.func14 rfl rfl rfl (sameX_any _ _ 32 32 _ _ _ _ _ H5 H6 (by omega) (by omega)) rfl ?_
          rintro e w7 ⟨rfl, ex⟩
          refine ⟨_, rfl, .inr ex, ?_⟩
          replace HA := HA.ext ex
          replace HB := HB.ext ex
          replace E := E.ext ex
          replace HS := HS.ext ex
          replace H8 := H8.ext ex
          replace H9 := H9.ext ex
          replace B1 := B1.ext ex
          replace H5 := H5.ext ex
          rw [decide_eq_true rfl]
          refine wm_y 15 rfl (by kernel_rfl) (y_pickt rfl rfl) rfl ?_
          refine wm_y 16 rfl (by kernel_rfl) (y_move rfl) rfl ?_
          refine wm_gy 17 rfl (by kernel_rfl) 45 rfl rfl (y_loadw rfl Try.underlying42 rfl (by rw [hz]; kernel_rfl) B1) rfl ?_
          refine wm_gy 18 rfl (by kernel_rfl) 45 rfl rfl (y_move rfl) rfl ?_
          refine wm_gy 20 rfl (by kernel_rfl) 45 rfl rfl (y_fieldAddr (o := 8) (s := 1) (off := 0) (o' := 8) rfl Try.underlying42 rfl (by kernel_rfl) rfl rfl) rfl ?_
          refine wm_gy 21 rfl (by kernel_rfl) 45 rfl rfl (y_load1 rfl Try.underlying24 rfl (B1.get q8)) rfl ?_
          refine wm_gy 22 rfl (by kernel_rfl) 45 rfl rfl (y_move rfl) rfl ?_
          refine wm_one 19 (by kernel_rfl) ?_; refine om_gcall rfl 45 rfl rfl Try.func33 rfl rfl rfl (stag_any cs l A n c xs _ HS (by omega) HA (by omega)) rfl ?_
          rintro e w8 ⟨A10, c10, rfl, H10, ex⟩
          refine ⟨_, rfl, .inr ex, ?_⟩
          replace HA := HA.ext ex
          replace HB := HB.ext ex
          replace E := E.ext ex
          replace HS := HS.ext ex
          replace H8 := H8.ext ex
          replace H9 := H9.ext ex
          replace B1 := B1.ext ex
          skip
          refine wm_one 23 (by kernel_rfl) ?_; refine om_gcall rfl 45 rfl rfl Try.func34 rfl rfl rfl (ref04_any A8 A n8 c8 n c _ xs _ H8 (by omega) HA (by omega)) rfl ?_
          rintro e w9 ⟨A11, c11, rfl, R11, ex⟩
          refine ⟨_, rfl, .inr ex, ?_⟩
          replace HA := HA.ext ex
          replace HB := HB.ext ex
          replace E := E.ext ex
          replace HS := HS.ext ex
          replace H8 := H8.ext ex
          replace H9 := H9.ext ex
          replace B1 := B1.ext ex
          replace H10 := H10.ext ex
          skip
          refine wm_one 24 (by kernel_rfl) ?_; refine om_gcall rfl 45 rfl rfl Try.func14 rfl rfl rfl (sameX_any _ _ 32 32 _ _ _ _ _ H10 R11.bs (by omega) (by omega)) rfl ?_
          rintro e w10 ⟨rfl, ex⟩
          refine ⟨_, rfl, .inr ex, ?_⟩
          replace HA := HA.ext ex
          replace HB := HB.ext ex
          replace E := E.ext ex
          replace HS := HS.ext ex
          replace H8 := H8.ext ex
          replace H9 := H9.ext ex
          replace B1 := B1.ext ex
          replace H10 := H10.ext ex
          rw [decide_eq_true rfl]
          refine wm_y 25 rfl (by kernel_rfl) (y_pickt rfl rfl) rfl ?_
          refine wm_y 26 rfl (by kernel_rfl) (y_move rfl) rfl ?_
          refine wm_gy 27 rfl (by kernel_rfl) 55 rfl rfl (y_loadw rfl Try.underlying42 rfl (by rw [hz]; kernel_rfl) B1) rfl ?_
          refine wm_gy 28 rfl (by kernel_rfl) 55 rfl rfl (y_move rfl) rfl ?_
          refine wm_gy 30 rfl (by kernel_rfl) 55 rfl rfl (y_fieldAddr (o := 9) (s := 1) (off := 0) (o' := 9) rfl Try.underlying42 rfl (by kernel_rfl) rfl rfl) rfl ?_
          refine wm_gy 31 rfl (by kernel_rfl) 55 rfl rfl (y_load1 rfl Try.underlying24 rfl (B1.get q9)) rfl ?_
          refine wm_gy 32 rfl (by kernel_rfl) 55 rfl rfl (y_move rfl) rfl ?_
          refine wm_one 29 (by kernel_rfl) ?_; refine om_gcall rfl 55 rfl rfl Try.func35 rfl rfl rfl (smember_any cs l B m d ys _ HS (by omega) HB (by omega)) rfl ?_
          rintro e w11 ⟨A12, c12, rfl, H12, ex⟩
          refine ⟨_, rfl, .inr ex, ?_⟩
          replace HA := HA.ext ex
          replace HB := HB.ext ex
          replace E := E.ext ex
          replace HS := HS.ext ex
          replace H8 := H8.ext ex
          replace H9 := H9.ext ex
          replace B1 := B1.ext ex
          skip
          refine wm_one 33 (by kernel_rfl) ?_; refine om_gcall rfl 55 rfl rfl Try.func34 rfl rfl rfl (ref04_any A9 B n9 c9 m d _ ys _ H9 (by omega) HB (by omega)) rfl ?_
          rintro e w12 ⟨A13, c13, rfl, R13, ex⟩
          refine ⟨_, rfl, .inr ex, ?_⟩
          replace HA := HA.ext ex
          replace HB := HB.ext ex
          replace E := E.ext ex
          replace HS := HS.ext ex
          replace H8 := H8.ext ex
          replace H9 := H9.ext ex
          replace B1 := B1.ext ex
          replace H12 := H12.ext ex
          skip
          refine wm_one 34 (by kernel_rfl) ?_; refine om_gcall rfl 55 rfl rfl Try.func14 rfl rfl rfl (sameX_any _ _ 32 32 _ _ _ _ _ H12 R13.bs (by omega) (by omega)) rfl ?_
          rintro e w13 ⟨rfl, ex⟩
          refine ⟨_, rfl, .inr ex, ?_⟩
          replace HA := HA.ext ex
          replace HB := HB.ext ex
          replace E := E.ext ex
          replace HS := HS.ext ex
          replace H8 := H8.ext ex
          replace H9 := H9.ext ex
          replace B1 := B1.ext ex
          replace H12 := H12.ext ex
          rw [decide_eq_true rfl]
          refine wm_y 35 rfl (by kernel_rfl) (y_pickt rfl rfl) rfl ?_
          refine wm_y 36 rfl (by kernel_rfl) (y_assign rfl) rfl ?_
          refine wm_done (by kernel_rfl) ?_
          refine wq_nop ?_
          refine wq_then_norm (hK10 ?_)
          refine wc_ret ?_
          refine hret rfl ?_
          exact ⟨rfl, E⟩
theorem slock_any (cs : Array Value) (l : List (List UInt8)) (w : World) (HS : SecAt w cs l) (hl : (l.getD 1 []).length ≤ 1000) :
    Calls Try.prog 36 #[.agg cs] w fun e w' => ∃ A1 c1 A2 c2, e = .returned (.tuple #[.slice A1 16 c1, .slice A2 12 c2]) ∧ Bs w' A1 16 (Kdf.label (l.getD 1 []) sKey.data.toList [] 16) ∧ Bs w' A2 12 (Kdf.label (l.getD 1 []) sNonce.data.toList [] 12) ∧ Ext w w' := by
  have hz := HS.size
  obtain ⟨A0, n0, c0, q0, H0⟩ := HS.get (i := 1) (by omega)
  have z0 := H0.1
  have E := Ext.refl w
  refine vc_enter2 10 Try.func36 rfl rfl rfl rfl ?_
  intro Q hret
  refine wc_seq ?_; intro K1 hK1
  refine wc_region ?_
  refine wl_ef (ef_box (cs := cs) rfl rfl) rfl ?_
  rintro _ w0 ⟨g0, rfl, B0, hg0, ex⟩
  replace E := E.ext ex
  replace H0 := H0.ext ex
  skip
  refine wl_y (y_assign rfl) rfl ?_
  refine wl_y (y_assign rfl) rfl ?_
  refine wl_nil ?_
  refine wq_then_norm (hK1 ?_)
  refine wc_seq ?_; intro K2 hK2
  refine wc_draw (by kernel_rfl) 8 rfl ?_; intro wd1 ex hd1
  replace E := E.ext ex
  replace H0 := H0.ext ex
  replace B0 := B0.ext ex
  refine wm_y 0 rfl (by kernel_rfl) (y_fieldAddr (o := 1) (s := 1) (off := 0) (o' := 1) rfl Try.underlying42 rfl (by kernel_rfl) rfl rfl) rfl ?_
  refine wm_y 1 rfl (by kernel_rfl) (y_load1 rfl Try.underlying24 rfl (B0.get q0)) rfl ?_
  refine wm_y 3 rfl (by kernel_rfl) (y_fieldAddr (o := 1) (s := 1) (off := 0) (o' := 1) rfl Try.underlying42 rfl (by kernel_rfl) rfl rfl) rfl ?_
  refine wm_y 4 rfl (by kernel_rfl) (y_load1 rfl Try.underlying24 rfl (B0.get q0)) rfl ?_
  refine wm_one 2 (by kernel_rfl) ?_; refine om_call rfl Try.func50 rfl rfl rfl (labelled_any A0 none n0 c0 0 0 16 sKey _ [] _ H0 (by omega) (by decide) (Bs.nil _ _) (by omega) (by omega)) rfl ?_
  rintro e w1 ⟨A1, c1, rfl, H1, ex⟩
  refine ⟨_, rfl, .inr ex, ?_⟩
  replace E := E.ext ex
  replace H0 := H0.ext ex
  replace B0 := B0.ext ex
  skip
  refine wm_one 5 (by kernel_rfl) ?_; refine om_call rfl Try.func50 rfl rfl rfl (labelled_any A0 none n0 c0 0 0 12 sNonce _ [] _ H0 (by omega) (by decide) (Bs.nil _ _) (by omega) (by omega)) rfl ?_
  rintro e w2 ⟨A2, c2, rfl, H2, ex⟩
  refine ⟨_, rfl, .inr ex, ?_⟩
  replace E := E.ext ex
  replace H0 := H0.ext ex
  replace B0 := B0.ext ex
  replace H1 := H1.ext ex
  skip
  refine wm_y 6 rfl (by kernel_rfl) (y_assign rfl) rfl ?_
  refine wm_y 7 rfl (by kernel_rfl) (y_assign rfl) rfl ?_
  refine wm_done (by kernel_rfl) ?_
  refine wq_nop ?_
  refine wq_then_norm (hK2 ?_)
  refine wc_ret ?_
  refine hret rfl rfl ?_
  exact ⟨A1, c1, A2, c2, rfl, H1, H2, E⟩
/-- What is exported. -/
def secExport (l : List (List UInt8)) (lab : ByteArray) (ctx : List UInt8) (n : Nat) : List UInt8 := Kdf.label (Kdf.label (l.getD 5 []) lab.data.toList [] 32) sExported.data.toList (Sha.sum ctx) n
theorem sexport_bad (cs : Array Value) (l : List (List UInt8)) (lab : ByteArray) (B : Option Addr) (m d : Nat) (ys : List UInt8) (z : Int) (w : World) (HS : SecAt w cs l) (hl : (l.getD 5 []).length ≤ 1000) (hlab : lab.size ≤ 1000) (HB : Bs w B m ys) (hm : m ≤ 1000) (hz0 : z < 0 ∨ 8160 < z) :
    Calls Try.prog 38 #[.agg cs, .string lab, .slice B m d, .int .i64 z] w fun e w' => e = .returned (.tuple #[.slice none 0 0, .int .u8 1]) ∧ Ext w w' := by
  have hz := HS.size
  obtain ⟨A0, n0, c0, q0, H0⟩ := HS.get (i := 5) (by omega)
  have z0 := H0.1
  have hy := HB.1
  have E := Ext.refl w
  refine vc_enter2 21 Try.func38 rfl rfl rfl rfl ?_
  intro Q hret
  refine wc_seq ?_; intro K1 hK1
  refine wc_region ?_
  refine wl_ef (ef_box (cs := cs) rfl rfl) rfl ?_
  rintro _ w0 ⟨g0, rfl, B0, hg0, ex⟩
  replace E := E.ext ex
  replace HB := HB.ext ex
  replace H0 := H0.ext ex
  skip
  refine wl_y (y_assign rfl) rfl ?_
  refine wl_y (y_assign rfl) rfl ?_
  refine wl_nil ?_
  refine wq_then_norm (hK1 ?_)
  refine wc_seq ?_; intro K2 hK2
  refine wc_region ?_
  refine wl_y (y_fieldAddr (o := 5) (s := 1) (off := 0) (o' := 5) rfl Try.underlying42 rfl (by kernel_rfl) rfl rfl) rfl ?_
  refine wl_y (y_load1 rfl Try.underlying24 rfl (B0.get q0)) rfl ?_
  refine wl_y (y_move rfl) rfl ?_
  refine wl_call Try.func41 rfl rfl rfl (secret_any A0 n0 c0 lab _ _ H0 (by omega) (by omega)) rfl ?_
  rintro e w1 ⟨A1, c1, rfl, H1, ex⟩
  refine ⟨_, rfl, ?_⟩
  replace E := E.ext ex
  replace HB := HB.ext ex
  replace H0 := H0.ext ex
  replace B0 := B0.ext ex
  skip
  refine wl_y (y_move rfl) rfl ?_
  refine wl_ef (ef_lit (z := .slice none 0 0) Try.underlying22 (by kernel_rfl) rfl rfl rfl rfl rfl) rfl ?_
  rintro _ w2 ⟨g2, rfl, B2, hg2, ex⟩
  replace E := E.ext ex
  replace HB := HB.ext ex
  replace H0 := H0.ext ex
  replace B0 := B0.ext ex
  replace H1 := H1.ext ex
  skip
  refine wl_call Try.func17 rfl rfl rfl (of_any _ 1 1 [ys] _ (bss_one B2 HB) (by omega) (by simp; omega)) rfl ?_
  rintro e w3 ⟨g3, rfl, hg3, B3, ex⟩
  refine ⟨_, rfl, ?_⟩
  replace E := E.ext ex
  replace HB := HB.ext ex
  replace H0 := H0.ext ex
  replace B0 := B0.ext ex
  replace H1 := H1.ext ex
  have H3 := bs_blk' B3 (Sha.sum_length _)
  refine wl_y (y_move rfl) rfl ?_
  refine wl_call Try.func40 rfl rfl rfl (label_bad A1 _ 32 c1 32 32 sExported z _ hz0) rfl ?_
  rintro e w4 ⟨rfl, ex⟩
  refine ⟨_, rfl, ?_⟩
  replace E := E.ext ex
  replace HB := HB.ext ex
  replace H0 := H0.ext ex
  replace B0 := B0.ext ex
  replace H1 := H1.ext ex
  skip
  refine wl_y (y_extract rfl rfl) rfl ?_
  refine wl_y (y_extract rfl rfl) rfl ?_
  refine wl_y (y_assign rfl) rfl ?_
  refine wl_y (y_assign rfl) rfl ?_
  refine wl_nil ?_
  refine wq_then_norm (hK2 ?_)
  refine wc_ret ?_
  refine hret rfl rfl ?_
  exact ⟨rfl, E⟩
theorem sexport_any (cs : Array Value) (l : List (List UInt8)) (lab : ByteArray) (B : Option Addr) (m d k : Nat) (ys : List UInt8) (w : World) (HS : SecAt w cs l) (hl : (l.getD 5 []).length ≤ 1000) (hlab : lab.size ≤ 1000) (HB : Bs w B m ys) (hm : m ≤ 1000) (hk : k ≤ 8160) :
    Calls Try.prog 38 #[.agg cs, .string lab, .slice B m d, .int .i64 (k : Int)] w fun e w' => ∃ A' c', e = .returned (.tuple #[.slice A' k c', .int .u8 0]) ∧ Bs w' A' k (secExport l lab ys k) ∧ Ext w w' := by
  have hz := HS.size
  obtain ⟨A0, n0, c0, q0, H0⟩ := HS.get (i := 5) (by omega)
  have z0 := H0.1
  have hy := HB.1
  have E := Ext.refl w
  refine vc_enter2 21 Try.func38 rfl rfl rfl rfl ?_
  intro Q hret
  refine wc_seq ?_; intro K1 hK1
  refine wc_region ?_
  refine wl_ef (ef_box (cs := cs) rfl rfl) rfl ?_
  rintro _ w0 ⟨g0, rfl, B0, hg0, ex⟩
  replace E := E.ext ex
  replace HB := HB.ext ex
  replace H0 := H0.ext ex
  skip
  refine wl_y (y_assign rfl) rfl ?_
  refine wl_y (y_assign rfl) rfl ?_
  refine wl_nil ?_
  refine wq_then_norm (hK1 ?_)
  refine wc_seq ?_; intro K2 hK2
  refine wc_region ?_
  refine wl_y (y_fieldAddr (o := 5) (s := 1) (off := 0) (o' := 5) rfl Try.underlying42 rfl (by kernel_rfl) rfl rfl) rfl ?_
  refine wl_y (y_load1 rfl Try.underlying24 rfl (B0.get q0)) rfl ?_
  refine wl_y (y_move rfl) rfl ?_
  refine wl_call Try.func41 rfl rfl rfl (secret_any A0 n0 c0 lab _ _ H0 (by omega) (by omega)) rfl ?_
  rintro e w1 ⟨A1, c1, rfl, H1, ex⟩
  refine ⟨_, rfl, ?_⟩
  replace E := E.ext ex
  replace HB := HB.ext ex
  replace H0 := H0.ext ex
  replace B0 := B0.ext ex
  skip
  refine wl_y (y_move rfl) rfl ?_
  refine wl_ef (ef_lit (z := .slice none 0 0) Try.underlying22 (by kernel_rfl) rfl rfl rfl rfl rfl) rfl ?_
  rintro _ w2 ⟨g2, rfl, B2, hg2, ex⟩
  replace E := E.ext ex
  replace HB := HB.ext ex
  replace H0 := H0.ext ex
  replace B0 := B0.ext ex
  replace H1 := H1.ext ex
  skip
  refine wl_call Try.func17 rfl rfl rfl (of_any _ 1 1 [ys] _ (bss_one B2 HB) (by omega) (by simp; omega)) rfl ?_
  rintro e w3 ⟨g3, rfl, hg3, B3, ex⟩
  refine ⟨_, rfl, ?_⟩
  replace E := E.ext ex
  replace HB := HB.ext ex
  replace H0 := H0.ext ex
  replace B0 := B0.ext ex
  replace H1 := H1.ext ex
  have H3 := bs_blk' B3 (Sha.sum_length _); simp only [List.flatten_cons, List.flatten_nil, List.append_nil] at H3
  refine wl_y (y_move rfl) rfl ?_
  refine wl_call Try.func40 rfl rfl rfl (label_any A1 _ 32 c1 32 32 k sExported _ _ _ H1 (by omega) (by decide) H3 (by omega) hk) rfl ?_
  rintro e w4 ⟨A4, c4, rfl, H4, hc4, ex⟩
  refine ⟨_, rfl, ?_⟩
  replace E := E.ext ex
  replace HB := HB.ext ex
  replace H0 := H0.ext ex
  replace B0 := B0.ext ex
  replace H1 := H1.ext ex
  skip
  refine wl_y (y_extract rfl rfl) rfl ?_
  refine wl_y (y_extract rfl rfl) rfl ?_
  refine wl_y (y_assign rfl) rfl ?_
  refine wl_y (y_assign rfl) rfl ?_
  refine wl_nil ?_
  refine wq_then_norm (hK2 ?_)
  refine wc_ret ?_
  refine hret rfl rfl ?_
  exact ⟨A4, c4, rfl, H4, E⟩
theorem rexport_any (cs : Array Value) (l : List (List UInt8)) (lab : ByteArray) (B : Option Addr) (m d k : Nat) (ys : List UInt8) (w : World) (HS : SecAt w cs l) (hl : (l.getD 5 []).length ≤ 1000) (hlab : lab.size ≤ 1000) (HB : Bs w B m ys) (hm : m ≤ 1000) (hk : k ≤ 8160) :
    Calls Try.prog 39 #[.agg cs, .string lab, .slice B m d, .int .i64 (k : Int)] w fun e w' => ∃ A' c', e = .returned (.slice A' k c') ∧ Bs w' A' k (secExport l lab ys k) ∧ Ext w w' := by
  have hz := HS.size
  obtain ⟨A0, n0, c0, q0, H0⟩ := HS.get (i := 5) (by omega)
  have z0 := H0.1
  have hy := HB.1
  have E := Ext.refl w
  refine vc_enter1 17 Try.func39 rfl rfl rfl rfl ?_
  intro Q hret
  refine wc_seq ?_; intro K1 hK1
  refine wc_region ?_
  refine wl_ef (ef_box (cs := cs) rfl rfl) rfl ?_
  rintro _ w0 ⟨g0, rfl, B0, hg0, ex⟩
  replace E := E.ext ex
  replace HB := HB.ext ex
  replace H0 := H0.ext ex
  skip
  refine wl_y (y_assign rfl) rfl ?_
  refine wl_nil ?_
  refine wq_then_norm (hK1 ?_)
  refine wc_seq ?_; intro K2 hK2
  refine wc_region ?_
  refine wl_y (y_fieldAddr (o := 5) (s := 1) (off := 0) (o' := 5) rfl Try.underlying42 rfl (by kernel_rfl) rfl rfl) rfl ?_
  refine wl_y (y_load1 rfl Try.underlying24 rfl (B0.get q0)) rfl ?_
  refine wl_y (y_move rfl) rfl ?_
  refine wl_call Try.func60 rfl rfl rfl (rsecret_any A0 n0 c0 lab _ _ H0 (by omega) (by omega)) rfl ?_
  rintro e w1 ⟨A1, c1, rfl, H1, ex⟩
  refine ⟨_, rfl, ?_⟩
  replace E := E.ext ex
  replace HB := HB.ext ex
  replace H0 := H0.ext ex
  replace B0 := B0.ext ex
  skip
  refine wl_y (y_move rfl) rfl ?_
  refine wl_call Try.func54 rfl rfl rfl (digest_any B m d ys _ HB (by omega)) rfl ?_
  rintro e w3 ⟨A3, c3, rfl, O3, ex⟩
  refine ⟨_, rfl, ?_⟩
  replace E := E.ext ex
  replace HB := HB.ext ex
  replace H0 := H0.ext ex
  replace B0 := B0.ext ex
  replace H1 := H1.ext ex
  have H3 := O3.bs
  refine wl_y (y_move rfl) rfl ?_
  refine wl_call Try.func37 rfl rfl rfl (refLabel_any A1 A3 32 c1 32 c3 k sExported _ _ _ H1 (by omega) (by decide) H3 (by omega) hk) rfl ?_
  rintro e w4 ⟨A4, c4, rfl, H4, ex⟩
  refine ⟨_, rfl, ?_⟩
  replace E := E.ext ex
  replace HB := HB.ext ex
  replace H0 := H0.ext ex
  replace B0 := B0.ext ex
  replace H1 := H1.ext ex
  skip
  refine wl_y (y_assign rfl) rfl ?_
  refine wl_nil ?_
  refine wq_then_norm (hK2 ?_)
  refine wc_ret ?_
  refine hret rfl ?_
  exact ⟨A4, c4, rfl, H4, E⟩
end Go.Proofs.Ytopbahbhldgbbaa
