/- A context and its bytes: what msg and the reference hand back. -/
import Derived.Test.YtjllhimhiekchaaGreatKdfC
import Derived.Test.YtjllhimhiekchaaGreatVc7
namespace Go.Proofs.YtjllhimhiekchaaGreat
open Go.RowKit
attribute [local irreducible] Y Ef WL WC WK WQ WM OpM WN WF OpN
structure Ctx where
 grp : List UInt8
 ep : Nat
 tree : List UInt8
 trans : List UInt8
def ctxBytes (c : Ctx) : List UInt8 := Wire.be 2 1 ++ Wire.be 2 1 ++ Wire.vec c.grp ++ Wire.be 8 c.ep ++ Wire.vec c.tree ++ Wire.vec c.trans ++ [0]
def ctxV (A1 A2 A3 : Option Addr) (n1 c1 n2 c2 n3 c3 e : Nat) : Array Value := #[.slice A1 n1 c1, .int .u64 (e : Int), .slice A2 n2 c2, .slice A3 n3 c3]
def CtxAt (w : World) (cs : Array Value) (c : Ctx) : Prop := ∃ A1 A2 A3 n1 c1 n2 c2 n3 c3, cs = ctxV A1 A2 A3 n1 c1 n2 c2 n3 c3 c.ep ∧ Bs w A1 n1 c.grp ∧ Bs w A2 n2 c.tree ∧ Bs w A3 n3 c.trans
theorem CtxAt.ext {w w' : World} {cs : Array Value} {c : Ctx} (h : CtxAt w cs c) (k : Ext w w') : CtxAt w' cs c := by
 obtain ⟨A1, A2, A3, n1, c1, n2, c2, n3, c3, h0, h1, h2, h3⟩ := h
 exact ⟨A1, A2, A3, n1, c1, n2, c2, n3, c3, h0, h1.ext k, h2.ext k, h3.ext k⟩
def Ctx.Small (c : Ctx) : Prop := c.grp.length ≤ 200 ∧ c.tree.length ≤ 200 ∧ c.trans.length ≤ 200 ∧ c.ep < 18446744073709551616
theorem ctxBytes_length {c : Ctx} (h : c.Small) : (ctxBytes c).length ≤ 700 := by
 obtain ⟨h1, h2, h3, h4⟩ := h
 have := Wire.lsz_le c.grp.length; have := Wire.lsz_le c.tree.length; have := Wire.lsz_le c.trans.length
 unfold ctxBytes
 simp only [List.length_append, Wire.be_length, Wire.vec_length, List.length_cons, List.length_nil]
 omega
theorem mnum_any (A : Option Addr) (n c s x : Nat) (xs : List UInt8) (w : World) (HA : Bs w A n xs) (hn : n ≤ 70368744177664) (hs : s = 1 ∨ s = 2 ∨ s = 4 ∨ s = 8) (hx : x < 18446744073709551616) :
  Calls Tryz.prog 174 #[.slice A n c, .int .i64 (s : Int), .int .u64 (x : Int)] w fun e w' => ∃ A' c', e = .returned (.slice A' (n + s) c') ∧ Row w' w.heap.size 5 A' (n + s) c' ((xs ++ Wire.be s x).map bv) ∧ Ext w w' := by
 refine vc_enter1 11 Tryz.func174 rfl rfl rfl rfl ?_
 intro Q hret
 refine wc_seq ?_; intro K1 hK1
 refine wc_region ?_
 refine wl_y (y_assign rfl) rfl ?_
 refine wl_nil ?_
 refine wq_then_norm (hK1 ?_)
 refine wc_seq ?_; intro K2 hK2
 refine wc_region ?_
 refine wl_y (y_move rfl) rfl ?_
 refine wl_y (y_move rfl) rfl ?_
 refine wl_y (y_move rfl) rfl ?_
 refine wl_call Tryz.func135 rfl rfl rfl (putNum_any A n c s x xs _ HA hn hs hx) rfl ?_
 rintro e w1 ⟨A1, c1, rfl, R1, ex⟩
 refine ⟨_, rfl, ?_⟩
 skip
 refine wl_y (y_assign rfl) rfl ?_
 refine wl_nil ?_
 refine wq_then_norm (hK2 ?_)
 refine wc_ret ?_
 refine hret rfl ?_
 exact ⟨A1, c1, rfl, R1, ex⟩
theorem mvec_any (A B : Option Addr) (n c m d : Nat) (xs ys : List UInt8) (w : World) (HA : Bs w A n xs) (hn : n ≤ 35184372088832) (HB : Bs w B m ys) (hm : m < 1073741824) :
  Calls Tryz.prog 94 #[.slice A n c, .slice B m d] w fun e w' => ∃ A' k c', e = .returned (.slice A' k c') ∧ Row w' w.heap.size 5 A' k c' ((xs ++ Wire.vec ys).map bv) ∧ k = n + (Wire.lsz m + m) ∧ Ext w w' := by
 refine vc_enter1 8 Tryz.func94 rfl rfl rfl rfl ?_
 intro Q hret
 refine wc_seq ?_; intro K1 hK1
 refine wc_region ?_
 refine wl_y (y_assign rfl) rfl ?_
 refine wl_nil ?_
 refine wq_then_norm (hK1 ?_)
 refine wc_seq ?_; intro K2 hK2
 refine wc_region ?_
 refine wl_y (y_move rfl) rfl ?_
 refine wl_y (y_move rfl) rfl ?_
 refine wl_call Tryz.func145 rfl rfl rfl (putVec_any A B n c m d xs ys _ HA hn HB hm) rfl ?_
 rintro e w1 ⟨A1, k1, c1, rfl, R1, hk, ex⟩
 refine ⟨_, rfl, ?_⟩
 skip
 refine wl_y (y_assign rfl) rfl ?_
 refine wl_nil ?_
 refine wq_then_norm (hK2 ?_)
 refine wc_ret ?_
 refine hret rfl ?_
 exact ⟨A1, k1, c1, rfl, R1, hk, ex⟩
theorem join20_any (A B : Option Addr) (n c m d : Nat) (xs ys : List UInt8) (w : World) (HA : Bs w A n xs) (hn : n ≤ 35184372088832) (HB : Bs w B m ys) (hm : m ≤ 35184372088832) :
  Calls Tryz.prog 64 #[.slice A n c, .slice B m d] w fun e w' => ∃ A' c', e = .returned (.slice A' (n + m) c') ∧ Row w' w.heap.size 5 A' (n + m) c' ((xs ++ ys).map bv) ∧ Ext w w' := by
 refine vc_enter1 10 Tryz.func64 rfl rfl rfl rfl ?_
 intro Q hret
 refine wc_seq ?_; intro K1 hK1
 refine wc_region ?_
 refine wl_y (y_assign rfl) rfl ?_
 refine wl_nil ?_
 refine wq_then_norm (hK1 ?_)
 refine wc_seq ?_; intro K2 hK2
 refine wc_region ?_
 refine wl_ef (ef_lit (z := .int .u8 0) Tryz.underlying23 (by kernel_rfl) rfl rfl rfl rfl rfl) rfl ?_
 rintro _ w1 ⟨g1, rfl, B1, hg1, ex⟩
 have E1 := ex; have R1 : Row w1 w.heap.size 5 (some ⟨g1, 0, none⟩) 0 0 [] := Row.new B1 hg1 rfl (by unfold maxLen; omega)
 refine wl_y (y_move rfl) rfl ?_
 refine wl_ef (ef_app0 rfl rfl eltB R1 (HA.ext E1).2 (by rw [List.length_map, HA.1]) (by intro u hu; exact bv_one u hu) (by omega) (by omega) E1.size) rfl ?_
 rintro _ w2 ⟨A2, c2, rfl, R2, be, gr, hl⟩
 have E2 := E1.trans be
 refine wl_y (y_move rfl) rfl ?_
 refine wl_ef (ef_app rfl rfl eltB R2 (HB.ext E2).2 (by rw [List.length_map, HB.1]) (by intro u hu; exact bv_one u hu) (by omega) (by omega) E2.size) rfl ?_
 rintro _ w3 ⟨A3, c3, rfl, R3, be, gr, hl⟩
 have E3 := E2.trans be
 refine wl_y (y_assign rfl) rfl ?_
 refine wl_nil ?_
 refine wq_then_norm (hK2 ?_)
 refine wc_ret ?_
 refine hret rfl ?_
 exact ⟨A3, c3, rfl, R3.cat, E3⟩
theorem three20_any (A B C : Option Addr) (n c m d k f : Nat) (xs ys zs : List UInt8) (w : World) (HA : Bs w A n xs) (hn : n ≤ 1000000) (HB : Bs w B m ys) (hm : m ≤ 1000000) (HC : Bs w C k zs) (hk : k ≤ 1000000) :
  Calls Tryz.prog 65 #[.slice A n c, .slice B m d, .slice C k f] w fun e w' => ∃ A' c', e = .returned (.slice A' (n + m + k) c') ∧ Row w' w.heap.size 5 A' (n + m + k) c' ((xs ++ ys ++ zs).map bv) ∧ Ext w w' := by
 refine vc_enter1 12 Tryz.func65 rfl rfl rfl rfl ?_
 intro Q hret
 refine wc_seq ?_; intro K1 hK1
 refine wc_region ?_
 refine wl_y (y_assign rfl) rfl ?_
 refine wl_nil ?_
 refine wq_then_norm (hK1 ?_)
 refine wc_seq ?_; intro K2 hK2
 refine wc_region ?_
 refine wl_y (y_move rfl) rfl ?_
 refine wl_y (y_move rfl) rfl ?_
 refine wl_call Tryz.func64 rfl rfl rfl (join20_any A B n c m d xs ys _ HA (by omega) HB (by omega)) rfl ?_
 rintro e w1 ⟨A1, c1, rfl, R1, ex⟩
 refine ⟨_, rfl, ?_⟩
 replace HC := HC.ext ex
 have E1 := ex
 refine wl_y (y_move rfl) rfl ?_
 refine wl_call Tryz.func64 rfl rfl rfl (join20_any A1 C _ c1 k f _ zs _ R1.bs (by omega) HC (by omega)) rfl ?_
 rintro e w2 ⟨A2, c2, rfl, R2, ex⟩
 refine ⟨_, rfl, ?_⟩
 replace HC := HC.ext ex
 have E2 := E1.ext ex
 refine wl_y (y_assign rfl) rfl ?_
 refine wl_nil ?_
 refine wq_then_norm (hK2 ?_)
 refine wc_ret ?_
 refine hret rfl ?_
 exact ⟨A2, c2, rfl, R2.lower E1.size, E2⟩
theorem two20_any (x : Nat) (w : World) (hx : x < 18446744073709551616) :
  Calls Tryz.prog 137 #[.int .u64 (x : Int)] w fun e w' => ∃ A' c', e = .returned (.slice A' 2 c') ∧ Row w' w.heap.size 5 A' 2 c' ((Wire.be 2 x).map bv) ∧ Ext w w' := by
 refine vc_enter1 5 Tryz.func137 rfl rfl rfl rfl ?_
 intro Q hret
 refine wc_seq ?_; intro K1 hK1
 refine wc_region ?_
 refine wl_y (y_assign rfl) rfl ?_
 refine wl_nil ?_
 refine wq_then_norm (hK1 ?_)
 refine wc_seq ?_; intro K2 hK2
 refine wc_region ?_
 refine wl_y (y_move rfl) rfl ?_
 refine wl_call Tryz.func59 rfl rfl rfl (refNum_any 2 x _ (by omega) hx) rfl ?_
 rintro e w1 ⟨A1, c1, rfl, R1, ex⟩
 refine ⟨_, rfl, ?_⟩
 skip
 refine wl_y (y_assign rfl) rfl ?_
 refine wl_nil ?_
 refine wq_then_norm (hK2 ?_)
 refine wc_ret ?_
 refine hret rfl ?_
 exact ⟨A1, c1, rfl, R1, ex⟩
theorem vec20_any (B : Option Addr) (m d : Nat) (ys : List UInt8) (w : World) (HB : Bs w B m ys) (hm : m < 1073741824) :
  Calls Tryz.prog 67 #[.slice B m d] w fun e w' => ∃ A' k c', e = .returned (.slice A' k c') ∧ Row w' w.heap.size 5 A' k c' ((Wire.vec ys).map bv) ∧ k = Wire.lsz m + m ∧ Ext w w' := by
 refine vc_enter1 5 Tryz.func67 rfl rfl rfl rfl ?_
 intro Q hret
 refine wc_seq ?_; intro K1 hK1
 refine wc_region ?_
 refine wl_y (y_assign rfl) rfl ?_
 refine wl_nil ?_
 refine wq_then_norm (hK1 ?_)
 refine wc_seq ?_; intro K2 hK2
 refine wc_region ?_
 refine wl_y (y_move rfl) rfl ?_
 refine wl_call Tryz.func57 rfl rfl rfl (refVec_any B m d ys _ HB hm) rfl ?_
 rintro e w1 ⟨A1, k1, c1, rfl, R1, hk, ex⟩
 refine ⟨_, rfl, ?_⟩
 skip
 refine wl_y (y_assign rfl) rfl ?_
 refine wl_nil ?_
 refine wq_then_norm (hK2 ?_)
 refine wc_ret ?_
 refine hret rfl ?_
 exact ⟨A1, k1, c1, rfl, R1, hk, ex⟩
theorem ctxBytesR_any (cs : Array Value) (x : Ctx) (w : World) (H : CtxAt w cs x) (hs : x.Small) :
  Calls Tryz.prog 108 #[.agg cs] w fun e w' => ∃ A' k c', e = .returned (.slice A' k c') ∧ Row w' w.heap.size 5 A' k c' ((ctxBytes x).map bv) ∧ k ≤ 700 ∧ Ext w w' := by
 have hlen := ctxBytes_length hs
 obtain ⟨A1, A2, A3, n1, c1, n2, c2, n3, c3, rfl, H1, H2, H3⟩ := H
 obtain ⟨s1, s2, s3, s4⟩ := hs
 have E := Ext.refl w
 have hl1 := H1.1; have hl2 := H2.1; have hl3 := H3.1
 have z1 := Wire.lsz_le n1; have z2 := Wire.lsz_le n2; have z3 := Wire.lsz_le n3
 refine vc_enter1 21 Tryz.func108 rfl rfl rfl rfl ?_
 intro Q hret
 refine wc_seq ?_; intro K1 hK1
 refine wc_region ?_
 refine wl_ef (ef_box (cs := ctxV A1 A2 A3 n1 c1 n2 c2 n3 c3 x.ep) rfl rfl) rfl ?_
 rintro _ w1 ⟨g1, rfl, B1, hg1, ex⟩
 replace E := E.ext ex
 replace H1 := H1.ext ex
 replace H2 := H2.ext ex
 replace H3 := H3.ext ex
 skip
 refine wl_y (y_assign rfl) rfl ?_
 refine wl_nil ?_
 refine wq_then_norm (hK1 ?_)
 refine wc_seq ?_; intro K2 hK2
 refine wc_draw (by kernel_rfl) 9 rfl ?_; intro wd1 ex hd1
 replace E := E.ext ex
 replace H1 := H1.ext ex
 replace H2 := H2.ext ex
 replace H3 := H3.ext ex
 replace B1 := B1.ext ex
 refine wm_y 2 rfl (by kernel_rfl) (y_fieldAddr (o := 0) (s := 1) (off := 0) (o' := 0) rfl Tryz.underlying40 rfl (by kernel_rfl) rfl rfl) rfl ?_
 refine wm_y 3 rfl (by kernel_rfl) (y_load1 rfl Tryz.underlying23 rfl (B1.get (i := 0) rfl)) rfl ?_
 refine wm_y 5 rfl (by kernel_rfl) (y_fieldAddr (o := 1) (s := 1) (off := 0) (o' := 1) rfl Tryz.underlying40 rfl (by kernel_rfl) rfl rfl) rfl ?_
 refine wm_y 6 rfl (by kernel_rfl) (y_load1 rfl Tryz.underlying38 rfl (B1.get (i := 1) rfl)) rfl ?_
 refine wm_one 0 (by kernel_rfl) ?_; refine om_call rfl Tryz.func174 rfl rfl rfl (mnum_any none 0 0 2 1 [] _ (Bs.nil _ _) (by omega) (by omega) (by omega)) rfl ?_
 rintro e w2 ⟨A4, c4, rfl, R4, ex⟩
 refine ⟨_, rfl, .inr ex, ?_⟩
 replace E := E.ext ex
 replace H1 := H1.ext ex
 replace H2 := H2.ext ex
 replace H3 := H3.ext ex
 replace B1 := B1.ext ex
 skip
 refine wm_one 1 (by kernel_rfl) ?_; refine om_call rfl Tryz.func174 rfl rfl rfl (mnum_any A4 _ c4 2 1 _ _ R4.bs (by omega) (by omega) (by omega)) rfl ?_
 rintro e w3 ⟨A5, c5, rfl, R5, ex⟩
 refine ⟨_, rfl, .inr ex, ?_⟩
 replace E := E.ext ex
 replace H1 := H1.ext ex
 replace H2 := H2.ext ex
 replace H3 := H3.ext ex
 replace B1 := B1.ext ex
 replace R4 := R4.ext ex
 skip
 refine wm_one 4 (by kernel_rfl) ?_; refine om_call rfl Tryz.func94 rfl rfl rfl (mvec_any A5 A1 _ c5 n1 c1 _ _ _ R5.bs (by omega) H1 (by omega)) rfl ?_
 rintro e w4 ⟨A6, k6, c6, rfl, R6, hk6, ex⟩
 refine ⟨_, rfl, .inr ex, ?_⟩
 replace E := E.ext ex
 replace H1 := H1.ext ex
 replace H2 := H2.ext ex
 replace H3 := H3.ext ex
 replace B1 := B1.ext ex
 replace R4 := R4.ext ex
 replace R5 := R5.ext ex
 skip
 refine wm_one 7 (by kernel_rfl) ?_; refine om_call rfl Tryz.func174 rfl rfl rfl (mnum_any A6 k6 c6 8 x.ep _ _ R6.bs (by omega) (by omega) (by omega)) rfl ?_
 rintro e w5 ⟨A7, c7, rfl, R7, ex⟩
 refine ⟨_, rfl, .inr ex, ?_⟩
 replace E := E.ext ex
 replace H1 := H1.ext ex
 replace H2 := H2.ext ex
 replace H3 := H3.ext ex
 replace B1 := B1.ext ex
 replace R4 := R4.ext ex
 replace R5 := R5.ext ex
 replace R6 := R6.ext ex
 skip
 refine wm_y 8 rfl (by kernel_rfl) (y_assign rfl) rfl ?_
 refine wm_done (by kernel_rfl) ?_
 refine wq_nop ?_
 refine wq_then_norm (hK2 ?_)
 refine wc_seq ?_; intro K3 hK3
 refine wc_draw (by kernel_rfl) 10 rfl ?_; intro wd2 ex hd2
 replace E := E.ext ex
 replace H1 := H1.ext ex
 replace H2 := H2.ext ex
 replace H3 := H3.ext ex
 replace B1 := B1.ext ex
 replace R4 := R4.ext ex
 replace R5 := R5.ext ex
 replace R6 := R6.ext ex
 replace R7 := R7.ext ex
 refine wm_z 0 rfl (by kernel_rfl) (fun _ => y_move rfl) rfl ?_
 refine wm_z 1 rfl (by kernel_rfl) (fun _ => y_fieldAddr (o := 2) (s := 1) (off := 0) (o' := 2) rfl Tryz.underlying40 rfl (by kernel_rfl) rfl rfl) rfl ?_
 refine wm_y 2 rfl (by kernel_rfl) (y_load1 rfl Tryz.underlying23 rfl (B1.get (i := 2) rfl)) rfl ?_
 refine wm_z 4 rfl (by kernel_rfl) (fun _ => y_fieldAddr (o := 3) (s := 1) (off := 0) (o' := 3) rfl Tryz.underlying40 rfl (by kernel_rfl) rfl rfl) rfl ?_
 refine wm_y 5 rfl (by kernel_rfl) (y_load1 rfl Tryz.underlying23 rfl (B1.get (i := 3) rfl)) rfl ?_
 refine wm_two 3 7 (by kernel_rfl) ?_ ?_
 ·skip
  refine om_call rfl Tryz.func94 rfl rfl rfl (mvec_any A7 A2 _ c7 n2 c2 _ _ _ R7.bs (by omega) H2 (by omega)) rfl ?_
  rintro e w6 ⟨A8, k8, c8, rfl, R8, hk8, ex⟩
  refine ⟨_, rfl, .inr ex, ?_⟩
  replace E := E.ext ex
  replace H1 := H1.ext ex
  replace H2 := H2.ext ex
  replace H3 := H3.ext ex
  replace B1 := B1.ext ex
  replace R4 := R4.ext ex
  replace R5 := R5.ext ex
  replace R6 := R6.ext ex
  replace R7 := R7.ext ex
  skip
  refine wm_two 6 7 (by kernel_rfl) ?_ ?_
  ·skip
   have hs0 := E
   refine om_call rfl Tryz.func94 rfl rfl rfl (mvec_any A8 A3 k8 c8 n3 c3 _ _ _ R8.bs (by omega) H3 (by omega)) rfl ?_
   rintro e w7 ⟨A9, k9, c9, rfl, R9, hk9, ex⟩
   refine ⟨_, rfl, .inr ex, ?_⟩
   replace E := E.ext ex
   replace H1 := H1.ext ex
   replace H2 := H2.ext ex
   replace H3 := H3.ext ex
   replace B1 := B1.ext ex
   replace R4 := R4.ext ex
   replace R5 := R5.ext ex
   replace R6 := R6.ext ex
   replace R7 := R7.ext ex
   replace R8 := R8.ext ex
   replace R9 := R9.lower hs0.size
   refine wm_one 7 (by kernel_rfl) ?_; refine om_ef rfl (ef_lit (z := .int .u8 0) Tryz.underlying23 (by kernel_rfl) rfl rfl rfl rfl rfl) rfl ?_
   rintro _ w8 ⟨g8, rfl, D8, hg8, ex⟩
   refine ⟨.inr ex, ?_⟩
   replace E := E.ext ex
   replace H1 := H1.ext ex
   replace H2 := H2.ext ex
   replace H3 := H3.ext ex
   replace B1 := B1.ext ex
   replace R4 := R4.ext ex
   replace R5 := R5.ext ex
   replace R6 := R6.ext ex
   replace R7 := R7.ext ex
   replace R8 := R8.ext ex
   replace R9 := R9.ext ex
   skip
   refine wm_one 8 (by kernel_rfl) ?_; refine om_ef rfl (ef_app rfl rfl eltB R9 (At.blk (vs := [(0 : UInt8)].map bv) (D8.congr (by rfl))) rfl (by intro u hu; exact bv_one u hu) (by omega) (by omega) E.size) rfl ?_
   rintro _ w9 ⟨A10, c10, rfl, R10, be, gr, hl⟩
   refine ⟨.inl rfl, ?_⟩
   have E9 := E.trans be; have R11 := R10.cat
   refine wm_y 9 rfl (by kernel_rfl) (y_assign rfl) rfl ?_
   refine wm_done (by kernel_rfl) ?_
   refine wq_nop ?_
   refine wq_then_norm (hK3 ?_)
   refine wc_ret ?_
   refine hret rfl ?_
   have HF := R11.bs
   have e : ([] ++ Wire.be 2 1 ++ Wire.be 2 1 ++ Wire.vec x.grp ++ Wire.be 8 x.ep ++ Wire.vec x.tree ++ Wire.vec x.trans ++ [0]) = ctxBytes x := by unfold ctxBytes; simp
   rw [e] at HF
   have hf := HF.1
   exact ⟨A10, _, c10, rfl, R11.congr rfl (by rw [e]), by omega, E9⟩
  ·skip
   refine om_ef rfl (ef_lit (z := .int .u8 0) Tryz.underlying23 (by kernel_rfl) rfl rfl rfl rfl rfl) rfl ?_
   rintro _ w8 ⟨g8, rfl, D8, hg8, ex⟩
   refine ⟨.inr ex, ?_⟩
   replace E := E.ext ex
   replace H1 := H1.ext ex
   replace H2 := H2.ext ex
   replace H3 := H3.ext ex
   replace B1 := B1.ext ex
   replace R4 := R4.ext ex
   replace R5 := R5.ext ex
   replace R6 := R6.ext ex
   replace R7 := R7.ext ex
   replace R8 := R8.ext ex
   skip
   have hs0 := E
   refine wm_one 6 (by kernel_rfl) ?_; refine om_call rfl Tryz.func94 rfl rfl rfl (mvec_any A8 A3 k8 c8 n3 c3 _ _ _ R8.bs (by omega) H3 (by omega)) rfl ?_
   rintro e w7 ⟨A9, k9, c9, rfl, R9, hk9, ex⟩
   refine ⟨_, rfl, .inr ex, ?_⟩
   replace E := E.ext ex
   replace H1 := H1.ext ex
   replace H2 := H2.ext ex
   replace H3 := H3.ext ex
   replace B1 := B1.ext ex
   replace R4 := R4.ext ex
   replace R5 := R5.ext ex
   replace R6 := R6.ext ex
   replace R7 := R7.ext ex
   replace R8 := R8.ext ex
   replace D8 := D8.ext ex
   replace R9 := R9.lower hs0.size
   refine wm_one 8 (by kernel_rfl) ?_; refine om_ef rfl (ef_app rfl rfl eltB R9 (At.blk (vs := [(0 : UInt8)].map bv) (D8.congr (by rfl))) rfl (by intro u hu; exact bv_one u hu) (by omega) (by omega) E.size) rfl ?_
   rintro _ w9 ⟨A10, c10, rfl, R10, be, gr, hl⟩
   refine ⟨.inl rfl, ?_⟩
   have E9 := E.trans be; have R11 := R10.cat
   refine wm_y 9 rfl (by kernel_rfl) (y_assign rfl) rfl ?_
   refine wm_done (by kernel_rfl) ?_
   refine wq_nop ?_
   refine wq_then_norm (hK3 ?_)
   refine wc_ret ?_
   refine hret rfl ?_
   have HF := R11.bs
   have e : ([] ++ Wire.be 2 1 ++ Wire.be 2 1 ++ Wire.vec x.grp ++ Wire.be 8 x.ep ++ Wire.vec x.tree ++ Wire.vec x.trans ++ [0]) = ctxBytes x := by unfold ctxBytes; simp
   rw [e] at HF
   have hf := HF.1
   exact ⟨A10, _, c10, rfl, R11.congr rfl (by rw [e]), by omega, E9⟩
 ·skip
  refine om_ef rfl (ef_lit (z := .int .u8 0) Tryz.underlying23 (by kernel_rfl) rfl rfl rfl rfl rfl) rfl ?_
  rintro _ w8 ⟨g8, rfl, D8, hg8, ex⟩
  refine ⟨.inr ex, ?_⟩
  replace E := E.ext ex
  replace H1 := H1.ext ex
  replace H2 := H2.ext ex
  replace H3 := H3.ext ex
  replace B1 := B1.ext ex
  replace R4 := R4.ext ex
  replace R5 := R5.ext ex
  replace R6 := R6.ext ex
  replace R7 := R7.ext ex
  skip
  refine wm_one 3 (by kernel_rfl) ?_; refine om_call rfl Tryz.func94 rfl rfl rfl (mvec_any A7 A2 _ c7 n2 c2 _ _ _ R7.bs (by omega) H2 (by omega)) rfl ?_
  rintro e w6 ⟨A8, k8, c8, rfl, R8, hk8, ex⟩
  refine ⟨_, rfl, .inr ex, ?_⟩
  replace E := E.ext ex
  replace H1 := H1.ext ex
  replace H2 := H2.ext ex
  replace H3 := H3.ext ex
  replace B1 := B1.ext ex
  replace R4 := R4.ext ex
  replace R5 := R5.ext ex
  replace R6 := R6.ext ex
  replace R7 := R7.ext ex
  replace D8 := D8.ext ex
  skip
  have hs0 := E
  refine wm_one 6 (by kernel_rfl) ?_; refine om_call rfl Tryz.func94 rfl rfl rfl (mvec_any A8 A3 k8 c8 n3 c3 _ _ _ R8.bs (by omega) H3 (by omega)) rfl ?_
  rintro e w7 ⟨A9, k9, c9, rfl, R9, hk9, ex⟩
  refine ⟨_, rfl, .inr ex, ?_⟩
  replace E := E.ext ex
  replace H1 := H1.ext ex
  replace H2 := H2.ext ex
  replace H3 := H3.ext ex
  replace B1 := B1.ext ex
  replace R4 := R4.ext ex
  replace R5 := R5.ext ex
  replace R6 := R6.ext ex
  replace R7 := R7.ext ex
  replace D8 := D8.ext ex
  replace R8 := R8.ext ex
  replace R9 := R9.lower hs0.size
  refine wm_one 8 (by kernel_rfl) ?_; refine om_ef rfl (ef_app rfl rfl eltB R9 (At.blk (vs := [(0 : UInt8)].map bv) (D8.congr (by rfl))) rfl (by intro u hu; exact bv_one u hu) (by omega) (by omega) E.size) rfl ?_
  rintro _ w9 ⟨A10, c10, rfl, R10, be, gr, hl⟩
  refine ⟨.inl rfl, ?_⟩
  have E9 := E.trans be; have R11 := R10.cat
  refine wm_y 9 rfl (by kernel_rfl) (y_assign rfl) rfl ?_
  refine wm_done (by kernel_rfl) ?_
  refine wq_nop ?_
  refine wq_then_norm (hK3 ?_)
  refine wc_ret ?_
  refine hret rfl ?_
  have HF := R11.bs
  have e : ([] ++ Wire.be 2 1 ++ Wire.be 2 1 ++ Wire.vec x.grp ++ Wire.be 8 x.ep ++ Wire.vec x.tree ++ Wire.vec x.trans ++ [0]) = ctxBytes x := by unfold ctxBytes; simp
  rw [e] at HF
  have hf := HF.1
  exact ⟨A10, _, c10, rfl, R11.congr rfl (by rw [e]), by omega, E9⟩
theorem rctxBytes_any (cs : Array Value) (x : Ctx) (w : World) (H : CtxAt w cs x) (hs : x.Small) :
  Calls Tryz.prog 66 #[.agg cs] w fun e w' => ∃ A' k c', e = .returned (.slice A' k c') ∧ Row w' w.heap.size 5 A' k c' ((ctxBytes x).map bv) ∧ k ≤ 700 ∧ Ext w w' := by
 have hlen := ctxBytes_length hs
 obtain ⟨A1, A2, A3, n1, c1, n2, c2, n3, c3, rfl, H1, H2, H3⟩ := H
 obtain ⟨s1, s2, s3, s4⟩ := hs
 have E := Ext.refl w
 have hl1 := H1.1; have hl2 := H2.1; have hl3 := H3.1
 have z1 := Wire.lsz_le n1; have z2 := Wire.lsz_le n2; have z3 := Wire.lsz_le n3
 refine vc_enter1 22 Tryz.func66 rfl rfl rfl rfl ?_
 intro Q hret
 refine wc_seq ?_; intro K1 hK1
 refine wc_region ?_
 refine wl_ef (ef_box (cs := ctxV A1 A2 A3 n1 c1 n2 c2 n3 c3 x.ep) rfl rfl) rfl ?_
 rintro _ w1 ⟨g1, rfl, B1, hg1, ex⟩
 replace E := E.ext ex
 replace H1 := H1.ext ex
 replace H2 := H2.ext ex
 replace H3 := H3.ext ex
 skip
 refine wl_y (y_assign rfl) rfl ?_
 refine wl_nil ?_
 refine wq_then_norm (hK1 ?_)
 refine wc_seq ?_; intro K2 hK2
 refine wc_draw (by kernel_rfl) 20 rfl ?_; intro wd1 ex hd1
 replace E := E.ext ex
 replace H1 := H1.ext ex
 replace H2 := H2.ext ex
 replace H3 := H3.ext ex
 replace B1 := B1.ext ex
 refine wm_y 2 rfl (by kernel_rfl) (y_fieldAddr (o := 0) (s := 1) (off := 0) (o' := 0) rfl Tryz.underlying40 rfl (by kernel_rfl) rfl rfl) rfl ?_
 refine wm_y 3 rfl (by kernel_rfl) (y_load1 rfl Tryz.underlying23 rfl (B1.get (i := 0) rfl)) rfl ?_
 refine wm_y 6 rfl (by kernel_rfl) (y_fieldAddr (o := 1) (s := 1) (off := 0) (o' := 1) rfl Tryz.underlying40 rfl (by kernel_rfl) rfl rfl) rfl ?_
 refine wm_y 7 rfl (by kernel_rfl) (y_load1 rfl Tryz.underlying38 rfl (B1.get (i := 1) rfl)) rfl ?_
 refine wm_y 10 rfl (by kernel_rfl) (y_fieldAddr (o := 2) (s := 1) (off := 0) (o' := 2) rfl Tryz.underlying40 rfl (by kernel_rfl) rfl rfl) rfl ?_
 refine wm_y 11 rfl (by kernel_rfl) (y_load1 rfl Tryz.underlying23 rfl (B1.get (i := 2) rfl)) rfl ?_
 refine wm_y 13 rfl (by kernel_rfl) (y_fieldAddr (o := 3) (s := 1) (off := 0) (o' := 3) rfl Tryz.underlying40 rfl (by kernel_rfl) rfl rfl) rfl ?_
 refine wm_y 14 rfl (by kernel_rfl) (y_load1 rfl Tryz.underlying23 rfl (B1.get (i := 3) rfl)) rfl ?_
 refine wm_two 0 16 (by kernel_rfl) ?_ ?_
 ·skip
  refine om_call rfl Tryz.func137 rfl rfl rfl (two20_any 1 _ (by omega)) rfl ?_
  rintro e w2 ⟨A4, c4, rfl, R4, ex⟩
  refine ⟨_, rfl, .inr ex, ?_⟩
  replace E := E.ext ex
  replace H1 := H1.ext ex
  replace H2 := H2.ext ex
  replace H3 := H3.ext ex
  replace B1 := B1.ext ex
  skip
  refine wm_two 1 16 (by kernel_rfl) ?_ ?_
  ·skip
   refine om_call rfl Tryz.func137 rfl rfl rfl (two20_any 1 _ (by omega)) rfl ?_
   rintro e w3 ⟨A5, c5, rfl, R5, ex⟩
   refine ⟨_, rfl, .inr ex, ?_⟩
   replace E := E.ext ex
   replace H1 := H1.ext ex
   replace H2 := H2.ext ex
   replace H3 := H3.ext ex
   replace B1 := B1.ext ex
   replace R4 := R4.ext ex
   skip
   refine wm_two 4 16 (by kernel_rfl) ?_ ?_
   ·skip
    refine om_call rfl Tryz.func67 rfl rfl rfl (vec20_any A1 n1 c1 _ _ H1 (by omega)) rfl ?_
    rintro e w4 ⟨A6, k6, c6, rfl, R6, hk6, ex⟩
    refine ⟨_, rfl, .inr ex, ?_⟩
    replace E := E.ext ex
    replace H1 := H1.ext ex
    replace H2 := H2.ext ex
    replace H3 := H3.ext ex
    replace B1 := B1.ext ex
    replace R4 := R4.ext ex
    replace R5 := R5.ext ex
    skip
    refine wm_two 5 16 (by kernel_rfl) ?_ ?_
    ·skip
     refine om_call rfl Tryz.func65 rfl rfl rfl (three20_any A4 A5 A6 2 c4 2 c5 k6 c6 _ _ _ _ R4.bs (by omega) R5.bs (by omega) R6.bs (by omega)) rfl ?_
     rintro e w5 ⟨A7, c7, rfl, R7, ex⟩
     refine ⟨_, rfl, .inr ex, ?_⟩
     replace E := E.ext ex
     replace H1 := H1.ext ex
     replace H2 := H2.ext ex
     replace H3 := H3.ext ex
     replace B1 := B1.ext ex
     replace R4 := R4.ext ex
     replace R5 := R5.ext ex
     replace R6 := R6.ext ex
     skip
     refine wm_two 8 16 (by kernel_rfl) ?_ ?_
     ·skip
      refine om_call rfl Tryz.func59 rfl rfl rfl (refNum_any 8 x.ep _ (by omega) (by omega)) rfl ?_
      rintro e w6 ⟨A8, c8, rfl, R8, ex⟩
      refine ⟨_, rfl, .inr ex, ?_⟩
      replace E := E.ext ex
      replace H1 := H1.ext ex
      replace H2 := H2.ext ex
      replace H3 := H3.ext ex
      replace B1 := B1.ext ex
      replace R4 := R4.ext ex
      replace R5 := R5.ext ex
      replace R6 := R6.ext ex
      replace R7 := R7.ext ex
      skip
      refine wm_two 9 16 (by kernel_rfl) ?_ ?_
      ·skip
       refine om_call rfl Tryz.func64 rfl rfl rfl (join20_any A7 A8 _ c7 8 c8 _ _ _ R7.bs (by omega) R8.bs (by omega)) rfl ?_
       rintro e w7 ⟨A9, c9, rfl, R9, ex⟩
       refine ⟨_, rfl, .inr ex, ?_⟩
       replace E := E.ext ex
       replace H1 := H1.ext ex
       replace H2 := H2.ext ex
       replace H3 := H3.ext ex
       replace B1 := B1.ext ex
       replace R4 := R4.ext ex
       replace R5 := R5.ext ex
       replace R6 := R6.ext ex
       replace R7 := R7.ext ex
       replace R8 := R8.ext ex
       skip
       refine wm_two 12 16 (by kernel_rfl) ?_ ?_
       ·skip
        refine om_call rfl Tryz.func67 rfl rfl rfl (vec20_any A2 n2 c2 _ _ H2 (by omega)) rfl ?_
        rintro e w8 ⟨A10, k10, c10, rfl, R10, hk10, ex⟩
        refine ⟨_, rfl, .inr ex, ?_⟩
        replace E := E.ext ex
        replace H1 := H1.ext ex
        replace H2 := H2.ext ex
        replace H3 := H3.ext ex
        replace B1 := B1.ext ex
        replace R4 := R4.ext ex
        replace R5 := R5.ext ex
        replace R6 := R6.ext ex
        replace R7 := R7.ext ex
        replace R8 := R8.ext ex
        replace R9 := R9.ext ex
        skip
        refine wm_two 15 16 (by kernel_rfl) ?_ ?_
        ·skip
         refine om_call rfl Tryz.func67 rfl rfl rfl (vec20_any A3 n3 c3 _ _ H3 (by omega)) rfl ?_
         rintro e w9 ⟨A11, k11, c11, rfl, R11, hk11, ex⟩
         refine ⟨_, rfl, .inr ex, ?_⟩
         replace E := E.ext ex
         replace H1 := H1.ext ex
         replace H2 := H2.ext ex
         replace H3 := H3.ext ex
         replace B1 := B1.ext ex
         replace R4 := R4.ext ex
         replace R5 := R5.ext ex
         replace R6 := R6.ext ex
         replace R7 := R7.ext ex
         replace R8 := R8.ext ex
         replace R9 := R9.ext ex
         replace R10 := R10.ext ex
         skip
         refine wm_one 16 (by kernel_rfl) ?_; refine om_ef rfl (ef_lit (z := .int .u8 0) Tryz.underlying23 (by kernel_rfl) rfl rfl rfl rfl rfl) rfl ?_
         rintro _ w10 ⟨g10, rfl, D10, hg10, ex⟩
         refine ⟨.inr ex, ?_⟩
         replace E := E.ext ex
         replace H1 := H1.ext ex
         replace H2 := H2.ext ex
         replace H3 := H3.ext ex
         replace B1 := B1.ext ex
         replace R4 := R4.ext ex
         replace R5 := R5.ext ex
         replace R6 := R6.ext ex
         replace R7 := R7.ext ex
         replace R8 := R8.ext ex
         replace R9 := R9.ext ex
         replace R10 := R10.ext ex
         replace R11 := R11.ext ex
         skip
         refine wm_one 17 (by kernel_rfl) ?_; refine om_call rfl Tryz.func65 rfl rfl rfl (three20_any A10 A11 _ k10 c10 k11 c11 1 1 _ _ _ _ R10.bs (by omega) R11.bs (by omega) (bs_blk' (xs := [(0 : UInt8)]) (D10.congr (by rfl)) rfl) (by omega)) rfl ?_
         rintro e w11 ⟨A12, c12, rfl, R12, ex⟩
         refine ⟨_, rfl, .inr ex, ?_⟩
         replace E := E.ext ex
         replace H1 := H1.ext ex
         replace H2 := H2.ext ex
         replace H3 := H3.ext ex
         replace B1 := B1.ext ex
         replace R4 := R4.ext ex
         replace R5 := R5.ext ex
         replace R6 := R6.ext ex
         replace R7 := R7.ext ex
         replace R8 := R8.ext ex
         replace R9 := R9.ext ex
         replace R10 := R10.ext ex
         replace R11 := R11.ext ex
         replace D10 := D10.ext ex
         skip
         have hs0 := E
         refine wm_one 18 (by kernel_rfl) ?_; refine om_call rfl Tryz.func64 rfl rfl rfl (join20_any A9 A12 _ c9 _ c12 _ _ _ R9.bs (by omega) R12.bs (by omega)) rfl ?_
         rintro e w12 ⟨A13, c13, rfl, R13, ex⟩
         refine ⟨_, rfl, .inr ex, ?_⟩
         replace E := E.ext ex
         replace H1 := H1.ext ex
         replace H2 := H2.ext ex
         replace H3 := H3.ext ex
         replace B1 := B1.ext ex
         replace R4 := R4.ext ex
         replace R5 := R5.ext ex
         replace R6 := R6.ext ex
         replace R7 := R7.ext ex
         replace R8 := R8.ext ex
         replace R9 := R9.ext ex
         replace R10 := R10.ext ex
         replace R11 := R11.ext ex
         replace D10 := D10.ext ex
         replace R12 := R12.ext ex
         replace R13 := R13.lower hs0.size
         refine wm_y 19 rfl (by kernel_rfl) (y_assign rfl) rfl ?_
         refine wm_done (by kernel_rfl) ?_
         refine wq_nop ?_
         refine wq_then_norm (hK2 ?_)
         refine wc_ret ?_
         refine hret rfl ?_
         have e : ((Wire.be 2 1 ++ Wire.be 2 1 ++ Wire.vec x.grp) ++ Wire.be 8 x.ep ++ (Wire.vec x.tree ++ Wire.vec x.trans ++ [0])) = ctxBytes x := by unfold ctxBytes; simp
         rw [e] at R13
         have hf := R13.bs.1
         exact ⟨A13, _, c13, rfl, R13, by omega, E⟩
        ·skip
         refine om_ef rfl (ef_lit (z := .int .u8 0) Tryz.underlying23 (by kernel_rfl) rfl rfl rfl rfl rfl) rfl ?_
         rintro _ w10 ⟨g10, rfl, D10, hg10, ex⟩
         refine ⟨.inr ex, ?_⟩
         replace E := E.ext ex
         replace H1 := H1.ext ex
         replace H2 := H2.ext ex
         replace H3 := H3.ext ex
         replace B1 := B1.ext ex
         replace R4 := R4.ext ex
         replace R5 := R5.ext ex
         replace R6 := R6.ext ex
         replace R7 := R7.ext ex
         replace R8 := R8.ext ex
         replace R9 := R9.ext ex
         replace R10 := R10.ext ex
         skip
         refine wm_one 15 (by kernel_rfl) ?_; refine om_call rfl Tryz.func67 rfl rfl rfl (vec20_any A3 n3 c3 _ _ H3 (by omega)) rfl ?_
         rintro e w9 ⟨A11, k11, c11, rfl, R11, hk11, ex⟩
         refine ⟨_, rfl, .inr ex, ?_⟩
         replace E := E.ext ex
         replace H1 := H1.ext ex
         replace H2 := H2.ext ex
         replace H3 := H3.ext ex
         replace B1 := B1.ext ex
         replace R4 := R4.ext ex
         replace R5 := R5.ext ex
         replace R6 := R6.ext ex
         replace R7 := R7.ext ex
         replace R8 := R8.ext ex
         replace R9 := R9.ext ex
         replace R10 := R10.ext ex
         replace D10 := D10.ext ex
         skip
         refine wm_one 17 (by kernel_rfl) ?_; refine om_call rfl Tryz.func65 rfl rfl rfl (three20_any A10 A11 _ k10 c10 k11 c11 1 1 _ _ _ _ R10.bs (by omega) R11.bs (by omega) (bs_blk' (xs := [(0 : UInt8)]) (D10.congr (by rfl)) rfl) (by omega)) rfl ?_
         rintro e w11 ⟨A12, c12, rfl, R12, ex⟩
         refine ⟨_, rfl, .inr ex, ?_⟩
         replace E := E.ext ex
         replace H1 := H1.ext ex
         replace H2 := H2.ext ex
         replace H3 := H3.ext ex
         replace B1 := B1.ext ex
         replace R4 := R4.ext ex
         replace R5 := R5.ext ex
         replace R6 := R6.ext ex
         replace R7 := R7.ext ex
         replace R8 := R8.ext ex
         replace R9 := R9.ext ex
         replace R10 := R10.ext ex
         replace D10 := D10.ext ex
         replace R11 := R11.ext ex
         skip
         have hs0 := E
         refine wm_one 18 (by kernel_rfl) ?_; refine om_call rfl Tryz.func64 rfl rfl rfl (join20_any A9 A12 _ c9 _ c12 _ _ _ R9.bs (by omega) R12.bs (by omega)) rfl ?_
         rintro e w12 ⟨A13, c13, rfl, R13, ex⟩
         refine ⟨_, rfl, .inr ex, ?_⟩
         replace E := E.ext ex
         replace H1 := H1.ext ex
         replace H2 := H2.ext ex
         replace H3 := H3.ext ex
         replace B1 := B1.ext ex
         replace R4 := R4.ext ex
         replace R5 := R5.ext ex
         replace R6 := R6.ext ex
         replace R7 := R7.ext ex
         replace R8 := R8.ext ex
         replace R9 := R9.ext ex
         replace R10 := R10.ext ex
         replace D10 := D10.ext ex
         replace R11 := R11.ext ex
         replace R12 := R12.ext ex
         replace R13 := R13.lower hs0.size
         refine wm_y 19 rfl (by kernel_rfl) (y_assign rfl) rfl ?_
         refine wm_done (by kernel_rfl) ?_
         refine wq_nop ?_
         refine wq_then_norm (hK2 ?_)
         refine wc_ret ?_
         refine hret rfl ?_
         have e : ((Wire.be 2 1 ++ Wire.be 2 1 ++ Wire.vec x.grp) ++ Wire.be 8 x.ep ++ (Wire.vec x.tree ++ Wire.vec x.trans ++ [0])) = ctxBytes x := by unfold ctxBytes; simp
         rw [e] at R13
         have hf := R13.bs.1
         exact ⟨A13, _, c13, rfl, R13, by omega, E⟩
       ·skip
        refine om_ef rfl (ef_lit (z := .int .u8 0) Tryz.underlying23 (by kernel_rfl) rfl rfl rfl rfl rfl) rfl ?_
        rintro _ w10 ⟨g10, rfl, D10, hg10, ex⟩
        refine ⟨.inr ex, ?_⟩
        replace E := E.ext ex
        replace H1 := H1.ext ex
        replace H2 := H2.ext ex
        replace H3 := H3.ext ex
        replace B1 := B1.ext ex
        replace R4 := R4.ext ex
        replace R5 := R5.ext ex
        replace R6 := R6.ext ex
        replace R7 := R7.ext ex
        replace R8 := R8.ext ex
        replace R9 := R9.ext ex
        skip
        refine wm_one 12 (by kernel_rfl) ?_; refine om_call rfl Tryz.func67 rfl rfl rfl (vec20_any A2 n2 c2 _ _ H2 (by omega)) rfl ?_
        rintro e w8 ⟨A10, k10, c10, rfl, R10, hk10, ex⟩
        refine ⟨_, rfl, .inr ex, ?_⟩
        replace E := E.ext ex
        replace H1 := H1.ext ex
        replace H2 := H2.ext ex
        replace H3 := H3.ext ex
        replace B1 := B1.ext ex
        replace R4 := R4.ext ex
        replace R5 := R5.ext ex
        replace R6 := R6.ext ex
        replace R7 := R7.ext ex
        replace R8 := R8.ext ex
        replace R9 := R9.ext ex
        replace D10 := D10.ext ex
        skip
        refine wm_one 15 (by kernel_rfl) ?_; refine om_call rfl Tryz.func67 rfl rfl rfl (vec20_any A3 n3 c3 _ _ H3 (by omega)) rfl ?_
        rintro e w9 ⟨A11, k11, c11, rfl, R11, hk11, ex⟩
        refine ⟨_, rfl, .inr ex, ?_⟩
        replace E := E.ext ex
        replace H1 := H1.ext ex
        replace H2 := H2.ext ex
        replace H3 := H3.ext ex
        replace B1 := B1.ext ex
        replace R4 := R4.ext ex
        replace R5 := R5.ext ex
        replace R6 := R6.ext ex
        replace R7 := R7.ext ex
        replace R8 := R8.ext ex
        replace R9 := R9.ext ex
        replace D10 := D10.ext ex
        replace R10 := R10.ext ex
        skip
        refine wm_one 17 (by kernel_rfl) ?_; refine om_call rfl Tryz.func65 rfl rfl rfl (three20_any A10 A11 _ k10 c10 k11 c11 1 1 _ _ _ _ R10.bs (by omega) R11.bs (by omega) (bs_blk' (xs := [(0 : UInt8)]) (D10.congr (by rfl)) rfl) (by omega)) rfl ?_
        rintro e w11 ⟨A12, c12, rfl, R12, ex⟩
        refine ⟨_, rfl, .inr ex, ?_⟩
        replace E := E.ext ex
        replace H1 := H1.ext ex
        replace H2 := H2.ext ex
        replace H3 := H3.ext ex
        replace B1 := B1.ext ex
        replace R4 := R4.ext ex
        replace R5 := R5.ext ex
        replace R6 := R6.ext ex
        replace R7 := R7.ext ex
        replace R8 := R8.ext ex
        replace R9 := R9.ext ex
        replace D10 := D10.ext ex
        replace R10 := R10.ext ex
        replace R11 := R11.ext ex
        skip
        have hs0 := E
        refine wm_one 18 (by kernel_rfl) ?_; refine om_call rfl Tryz.func64 rfl rfl rfl (join20_any A9 A12 _ c9 _ c12 _ _ _ R9.bs (by omega) R12.bs (by omega)) rfl ?_
        rintro e w12 ⟨A13, c13, rfl, R13, ex⟩
        refine ⟨_, rfl, .inr ex, ?_⟩
        replace E := E.ext ex
        replace H1 := H1.ext ex
        replace H2 := H2.ext ex
        replace H3 := H3.ext ex
        replace B1 := B1.ext ex
        replace R4 := R4.ext ex
        replace R5 := R5.ext ex
        replace R6 := R6.ext ex
        replace R7 := R7.ext ex
        replace R8 := R8.ext ex
        replace R9 := R9.ext ex
        replace D10 := D10.ext ex
        replace R10 := R10.ext ex
        replace R11 := R11.ext ex
        replace R12 := R12.ext ex
        replace R13 := R13.lower hs0.size
        refine wm_y 19 rfl (by kernel_rfl) (y_assign rfl) rfl ?_
        refine wm_done (by kernel_rfl) ?_
        refine wq_nop ?_
        refine wq_then_norm (hK2 ?_)
        refine wc_ret ?_
        refine hret rfl ?_
        have e : ((Wire.be 2 1 ++ Wire.be 2 1 ++ Wire.vec x.grp) ++ Wire.be 8 x.ep ++ (Wire.vec x.tree ++ Wire.vec x.trans ++ [0])) = ctxBytes x := by unfold ctxBytes; simp
        rw [e] at R13
        have hf := R13.bs.1
        exact ⟨A13, _, c13, rfl, R13, by omega, E⟩
      ·skip
       refine om_ef rfl (ef_lit (z := .int .u8 0) Tryz.underlying23 (by kernel_rfl) rfl rfl rfl rfl rfl) rfl ?_
       rintro _ w10 ⟨g10, rfl, D10, hg10, ex⟩
       refine ⟨.inr ex, ?_⟩
       replace E := E.ext ex
       replace H1 := H1.ext ex
       replace H2 := H2.ext ex
       replace H3 := H3.ext ex
       replace B1 := B1.ext ex
       replace R4 := R4.ext ex
       replace R5 := R5.ext ex
       replace R6 := R6.ext ex
       replace R7 := R7.ext ex
       replace R8 := R8.ext ex
       skip
       refine wm_one 9 (by kernel_rfl) ?_; refine om_call rfl Tryz.func64 rfl rfl rfl (join20_any A7 A8 _ c7 8 c8 _ _ _ R7.bs (by omega) R8.bs (by omega)) rfl ?_
       rintro e w7 ⟨A9, c9, rfl, R9, ex⟩
       refine ⟨_, rfl, .inr ex, ?_⟩
       replace E := E.ext ex
       replace H1 := H1.ext ex
       replace H2 := H2.ext ex
       replace H3 := H3.ext ex
       replace B1 := B1.ext ex
       replace R4 := R4.ext ex
       replace R5 := R5.ext ex
       replace R6 := R6.ext ex
       replace R7 := R7.ext ex
       replace R8 := R8.ext ex
       replace D10 := D10.ext ex
       skip
       refine wm_one 12 (by kernel_rfl) ?_; refine om_call rfl Tryz.func67 rfl rfl rfl (vec20_any A2 n2 c2 _ _ H2 (by omega)) rfl ?_
       rintro e w8 ⟨A10, k10, c10, rfl, R10, hk10, ex⟩
       refine ⟨_, rfl, .inr ex, ?_⟩
       replace E := E.ext ex
       replace H1 := H1.ext ex
       replace H2 := H2.ext ex
       replace H3 := H3.ext ex
       replace B1 := B1.ext ex
       replace R4 := R4.ext ex
       replace R5 := R5.ext ex
       replace R6 := R6.ext ex
       replace R7 := R7.ext ex
       replace R8 := R8.ext ex
       replace D10 := D10.ext ex
       replace R9 := R9.ext ex
       skip
       refine wm_one 15 (by kernel_rfl) ?_; refine om_call rfl Tryz.func67 rfl rfl rfl (vec20_any A3 n3 c3 _ _ H3 (by omega)) rfl ?_
       rintro e w9 ⟨A11, k11, c11, rfl, R11, hk11, ex⟩
       refine ⟨_, rfl, .inr ex, ?_⟩
       replace E := E.ext ex
       replace H1 := H1.ext ex
       replace H2 := H2.ext ex
       replace H3 := H3.ext ex
       replace B1 := B1.ext ex
       replace R4 := R4.ext ex
       replace R5 := R5.ext ex
       replace R6 := R6.ext ex
       replace R7 := R7.ext ex
       replace R8 := R8.ext ex
       replace D10 := D10.ext ex
       replace R9 := R9.ext ex
       replace R10 := R10.ext ex
       skip
       refine wm_one 17 (by kernel_rfl) ?_; refine om_call rfl Tryz.func65 rfl rfl rfl (three20_any A10 A11 _ k10 c10 k11 c11 1 1 _ _ _ _ R10.bs (by omega) R11.bs (by omega) (bs_blk' (xs := [(0 : UInt8)]) (D10.congr (by rfl)) rfl) (by omega)) rfl ?_
       rintro e w11 ⟨A12, c12, rfl, R12, ex⟩
       refine ⟨_, rfl, .inr ex, ?_⟩
       replace E := E.ext ex
       replace H1 := H1.ext ex
       replace H2 := H2.ext ex
       replace H3 := H3.ext ex
       replace B1 := B1.ext ex
       replace R4 := R4.ext ex
       replace R5 := R5.ext ex
       replace R6 := R6.ext ex
       replace R7 := R7.ext ex
       replace R8 := R8.ext ex
       replace D10 := D10.ext ex
       replace R9 := R9.ext ex
       replace R10 := R10.ext ex
       replace R11 := R11.ext ex
       skip
       have hs0 := E
       refine wm_one 18 (by kernel_rfl) ?_; refine om_call rfl Tryz.func64 rfl rfl rfl (join20_any A9 A12 _ c9 _ c12 _ _ _ R9.bs (by omega) R12.bs (by omega)) rfl ?_
       rintro e w12 ⟨A13, c13, rfl, R13, ex⟩
       refine ⟨_, rfl, .inr ex, ?_⟩
       replace E := E.ext ex
       replace H1 := H1.ext ex
       replace H2 := H2.ext ex
       replace H3 := H3.ext ex
       replace B1 := B1.ext ex
       replace R4 := R4.ext ex
       replace R5 := R5.ext ex
       replace R6 := R6.ext ex
       replace R7 := R7.ext ex
       replace R8 := R8.ext ex
       replace D10 := D10.ext ex
       replace R9 := R9.ext ex
       replace R10 := R10.ext ex
       replace R11 := R11.ext ex
       replace R12 := R12.ext ex
       replace R13 := R13.lower hs0.size
       refine wm_y 19 rfl (by kernel_rfl) (y_assign rfl) rfl ?_
       refine wm_done (by kernel_rfl) ?_
       refine wq_nop ?_
       refine wq_then_norm (hK2 ?_)
       refine wc_ret ?_
       refine hret rfl ?_
       have e : ((Wire.be 2 1 ++ Wire.be 2 1 ++ Wire.vec x.grp) ++ Wire.be 8 x.ep ++ (Wire.vec x.tree ++ Wire.vec x.trans ++ [0])) = ctxBytes x := by unfold ctxBytes; simp
       rw [e] at R13
       have hf := R13.bs.1
       exact ⟨A13, _, c13, rfl, R13, by omega, E⟩
     ·skip
      refine om_ef rfl (ef_lit (z := .int .u8 0) Tryz.underlying23 (by kernel_rfl) rfl rfl rfl rfl rfl) rfl ?_
      rintro _ w10 ⟨g10, rfl, D10, hg10, ex⟩
      refine ⟨.inr ex, ?_⟩
      replace E := E.ext ex
      replace H1 := H1.ext ex
      replace H2 := H2.ext ex
      replace H3 := H3.ext ex
      replace B1 := B1.ext ex
      replace R4 := R4.ext ex
      replace R5 := R5.ext ex
      replace R6 := R6.ext ex
      replace R7 := R7.ext ex
      skip
      refine wm_one 8 (by kernel_rfl) ?_; refine om_call rfl Tryz.func59 rfl rfl rfl (refNum_any 8 x.ep _ (by omega) (by omega)) rfl ?_
      rintro e w6 ⟨A8, c8, rfl, R8, ex⟩
      refine ⟨_, rfl, .inr ex, ?_⟩
      replace E := E.ext ex
      replace H1 := H1.ext ex
      replace H2 := H2.ext ex
      replace H3 := H3.ext ex
      replace B1 := B1.ext ex
      replace R4 := R4.ext ex
      replace R5 := R5.ext ex
      replace R6 := R6.ext ex
      replace R7 := R7.ext ex
      replace D10 := D10.ext ex
      skip
      refine wm_one 9 (by kernel_rfl) ?_; refine om_call rfl Tryz.func64 rfl rfl rfl (join20_any A7 A8 _ c7 8 c8 _ _ _ R7.bs (by omega) R8.bs (by omega)) rfl ?_
      rintro e w7 ⟨A9, c9, rfl, R9, ex⟩
      refine ⟨_, rfl, .inr ex, ?_⟩
      replace E := E.ext ex
      replace H1 := H1.ext ex
      replace H2 := H2.ext ex
      replace H3 := H3.ext ex
      replace B1 := B1.ext ex
      replace R4 := R4.ext ex
      replace R5 := R5.ext ex
      replace R6 := R6.ext ex
      replace R7 := R7.ext ex
      replace D10 := D10.ext ex
      replace R8 := R8.ext ex
      skip
      refine wm_one 12 (by kernel_rfl) ?_; refine om_call rfl Tryz.func67 rfl rfl rfl (vec20_any A2 n2 c2 _ _ H2 (by omega)) rfl ?_
      rintro e w8 ⟨A10, k10, c10, rfl, R10, hk10, ex⟩
      refine ⟨_, rfl, .inr ex, ?_⟩
      replace E := E.ext ex
      replace H1 := H1.ext ex
      replace H2 := H2.ext ex
      replace H3 := H3.ext ex
      replace B1 := B1.ext ex
      replace R4 := R4.ext ex
      replace R5 := R5.ext ex
      replace R6 := R6.ext ex
      replace R7 := R7.ext ex
      replace D10 := D10.ext ex
      replace R8 := R8.ext ex
      replace R9 := R9.ext ex
      skip
      refine wm_one 15 (by kernel_rfl) ?_; refine om_call rfl Tryz.func67 rfl rfl rfl (vec20_any A3 n3 c3 _ _ H3 (by omega)) rfl ?_
      rintro e w9 ⟨A11, k11, c11, rfl, R11, hk11, ex⟩
      refine ⟨_, rfl, .inr ex, ?_⟩
      replace E := E.ext ex
      replace H1 := H1.ext ex
      replace H2 := H2.ext ex
      replace H3 := H3.ext ex
      replace B1 := B1.ext ex
      replace R4 := R4.ext ex
      replace R5 := R5.ext ex
      replace R6 := R6.ext ex
      replace R7 := R7.ext ex
      replace D10 := D10.ext ex
      replace R8 := R8.ext ex
      replace R9 := R9.ext ex
      replace R10 := R10.ext ex
      skip
      refine wm_one 17 (by kernel_rfl) ?_; refine om_call rfl Tryz.func65 rfl rfl rfl (three20_any A10 A11 _ k10 c10 k11 c11 1 1 _ _ _ _ R10.bs (by omega) R11.bs (by omega) (bs_blk' (xs := [(0 : UInt8)]) (D10.congr (by rfl)) rfl) (by omega)) rfl ?_
      rintro e w11 ⟨A12, c12, rfl, R12, ex⟩
      refine ⟨_, rfl, .inr ex, ?_⟩
      replace E := E.ext ex
      replace H1 := H1.ext ex
      replace H2 := H2.ext ex
      replace H3 := H3.ext ex
      replace B1 := B1.ext ex
      replace R4 := R4.ext ex
      replace R5 := R5.ext ex
      replace R6 := R6.ext ex
      replace R7 := R7.ext ex
      replace D10 := D10.ext ex
      replace R8 := R8.ext ex
      replace R9 := R9.ext ex
      replace R10 := R10.ext ex
      replace R11 := R11.ext ex
      skip
      have hs0 := E
      refine wm_one 18 (by kernel_rfl) ?_; refine om_call rfl Tryz.func64 rfl rfl rfl (join20_any A9 A12 _ c9 _ c12 _ _ _ R9.bs (by omega) R12.bs (by omega)) rfl ?_
      rintro e w12 ⟨A13, c13, rfl, R13, ex⟩
      refine ⟨_, rfl, .inr ex, ?_⟩
      replace E := E.ext ex
      replace H1 := H1.ext ex
      replace H2 := H2.ext ex
      replace H3 := H3.ext ex
      replace B1 := B1.ext ex
      replace R4 := R4.ext ex
      replace R5 := R5.ext ex
      replace R6 := R6.ext ex
      replace R7 := R7.ext ex
      replace D10 := D10.ext ex
      replace R8 := R8.ext ex
      replace R9 := R9.ext ex
      replace R10 := R10.ext ex
      replace R11 := R11.ext ex
      replace R12 := R12.ext ex
      replace R13 := R13.lower hs0.size
      refine wm_y 19 rfl (by kernel_rfl) (y_assign rfl) rfl ?_
      refine wm_done (by kernel_rfl) ?_
      refine wq_nop ?_
      refine wq_then_norm (hK2 ?_)
      refine wc_ret ?_
      refine hret rfl ?_
      have e : ((Wire.be 2 1 ++ Wire.be 2 1 ++ Wire.vec x.grp) ++ Wire.be 8 x.ep ++ (Wire.vec x.tree ++ Wire.vec x.trans ++ [0])) = ctxBytes x := by unfold ctxBytes; simp
      rw [e] at R13
      have hf := R13.bs.1
      exact ⟨A13, _, c13, rfl, R13, by omega, E⟩
    ·skip
     refine om_ef rfl (ef_lit (z := .int .u8 0) Tryz.underlying23 (by kernel_rfl) rfl rfl rfl rfl rfl) rfl ?_
     rintro _ w10 ⟨g10, rfl, D10, hg10, ex⟩
     refine ⟨.inr ex, ?_⟩
     replace E := E.ext ex
     replace H1 := H1.ext ex
     replace H2 := H2.ext ex
     replace H3 := H3.ext ex
     replace B1 := B1.ext ex
     replace R4 := R4.ext ex
     replace R5 := R5.ext ex
     replace R6 := R6.ext ex
     skip
     refine wm_one 5 (by kernel_rfl) ?_; refine om_call rfl Tryz.func65 rfl rfl rfl (three20_any A4 A5 A6 2 c4 2 c5 k6 c6 _ _ _ _ R4.bs (by omega) R5.bs (by omega) R6.bs (by omega)) rfl ?_
     rintro e w5 ⟨A7, c7, rfl, R7, ex⟩
     refine ⟨_, rfl, .inr ex, ?_⟩
     replace E := E.ext ex
     replace H1 := H1.ext ex
     replace H2 := H2.ext ex
     replace H3 := H3.ext ex
     replace B1 := B1.ext ex
     replace R4 := R4.ext ex
     replace R5 := R5.ext ex
     replace R6 := R6.ext ex
     replace D10 := D10.ext ex
     skip
     refine wm_one 8 (by kernel_rfl) ?_; refine om_call rfl Tryz.func59 rfl rfl rfl (refNum_any 8 x.ep _ (by omega) (by omega)) rfl ?_
     rintro e w6 ⟨A8, c8, rfl, R8, ex⟩
     refine ⟨_, rfl, .inr ex, ?_⟩
     replace E := E.ext ex
     replace H1 := H1.ext ex
     replace H2 := H2.ext ex
     replace H3 := H3.ext ex
     replace B1 := B1.ext ex
     replace R4 := R4.ext ex
     replace R5 := R5.ext ex
     replace R6 := R6.ext ex
     replace D10 := D10.ext ex
     replace R7 := R7.ext ex
     skip
     refine wm_one 9 (by kernel_rfl) ?_; refine om_call rfl Tryz.func64 rfl rfl rfl (join20_any A7 A8 _ c7 8 c8 _ _ _ R7.bs (by omega) R8.bs (by omega)) rfl ?_
     rintro e w7 ⟨A9, c9, rfl, R9, ex⟩
     refine ⟨_, rfl, .inr ex, ?_⟩
     replace E := E.ext ex
     replace H1 := H1.ext ex
     replace H2 := H2.ext ex
     replace H3 := H3.ext ex
     replace B1 := B1.ext ex
     replace R4 := R4.ext ex
     replace R5 := R5.ext ex
     replace R6 := R6.ext ex
     replace D10 := D10.ext ex
     replace R7 := R7.ext ex
     replace R8 := R8.ext ex
     skip
     refine wm_one 12 (by kernel_rfl) ?_; refine om_call rfl Tryz.func67 rfl rfl rfl (vec20_any A2 n2 c2 _ _ H2 (by omega)) rfl ?_
     rintro e w8 ⟨A10, k10, c10, rfl, R10, hk10, ex⟩
     refine ⟨_, rfl, .inr ex, ?_⟩
     replace E := E.ext ex
     replace H1 := H1.ext ex
     replace H2 := H2.ext ex
     replace H3 := H3.ext ex
     replace B1 := B1.ext ex
     replace R4 := R4.ext ex
     replace R5 := R5.ext ex
     replace R6 := R6.ext ex
     replace D10 := D10.ext ex
     replace R7 := R7.ext ex
     replace R8 := R8.ext ex
     replace R9 := R9.ext ex
     skip
     refine wm_one 15 (by kernel_rfl) ?_; refine om_call rfl Tryz.func67 rfl rfl rfl (vec20_any A3 n3 c3 _ _ H3 (by omega)) rfl ?_
     rintro e w9 ⟨A11, k11, c11, rfl, R11, hk11, ex⟩
     refine ⟨_, rfl, .inr ex, ?_⟩
     replace E := E.ext ex
     replace H1 := H1.ext ex
     replace H2 := H2.ext ex
     replace H3 := H3.ext ex
     replace B1 := B1.ext ex
     replace R4 := R4.ext ex
     replace R5 := R5.ext ex
     replace R6 := R6.ext ex
     replace D10 := D10.ext ex
     replace R7 := R7.ext ex
     replace R8 := R8.ext ex
     replace R9 := R9.ext ex
     replace R10 := R10.ext ex
     skip
     refine wm_one 17 (by kernel_rfl) ?_; refine om_call rfl Tryz.func65 rfl rfl rfl (three20_any A10 A11 _ k10 c10 k11 c11 1 1 _ _ _ _ R10.bs (by omega) R11.bs (by omega) (bs_blk' (xs := [(0 : UInt8)]) (D10.congr (by rfl)) rfl) (by omega)) rfl ?_
     rintro e w11 ⟨A12, c12, rfl, R12, ex⟩
     refine ⟨_, rfl, .inr ex, ?_⟩
     replace E := E.ext ex
     replace H1 := H1.ext ex
     replace H2 := H2.ext ex
     replace H3 := H3.ext ex
     replace B1 := B1.ext ex
     replace R4 := R4.ext ex
     replace R5 := R5.ext ex
     replace R6 := R6.ext ex
     replace D10 := D10.ext ex
     replace R7 := R7.ext ex
     replace R8 := R8.ext ex
     replace R9 := R9.ext ex
     replace R10 := R10.ext ex
     replace R11 := R11.ext ex
     skip
     have hs0 := E
     refine wm_one 18 (by kernel_rfl) ?_; refine om_call rfl Tryz.func64 rfl rfl rfl (join20_any A9 A12 _ c9 _ c12 _ _ _ R9.bs (by omega) R12.bs (by omega)) rfl ?_
     rintro e w12 ⟨A13, c13, rfl, R13, ex⟩
     refine ⟨_, rfl, .inr ex, ?_⟩
     replace E := E.ext ex
     replace H1 := H1.ext ex
     replace H2 := H2.ext ex
     replace H3 := H3.ext ex
     replace B1 := B1.ext ex
     replace R4 := R4.ext ex
     replace R5 := R5.ext ex
     replace R6 := R6.ext ex
     replace D10 := D10.ext ex
     replace R7 := R7.ext ex
     replace R8 := R8.ext ex
     replace R9 := R9.ext ex
     replace R10 := R10.ext ex
     replace R11 := R11.ext ex
     replace R12 := R12.ext ex
     replace R13 := R13.lower hs0.size
     refine wm_y 19 rfl (by kernel_rfl) (y_assign rfl) rfl ?_
     refine wm_done (by kernel_rfl) ?_
     refine wq_nop ?_
     refine wq_then_norm (hK2 ?_)
     refine wc_ret ?_
     refine hret rfl ?_
     have e : ((Wire.be 2 1 ++ Wire.be 2 1 ++ Wire.vec x.grp) ++ Wire.be 8 x.ep ++ (Wire.vec x.tree ++ Wire.vec x.trans ++ [0])) = ctxBytes x := by unfold ctxBytes; simp
     rw [e] at R13
     have hf := R13.bs.1
     exact ⟨A13, _, c13, rfl, R13, by omega, E⟩
   ·skip
    refine om_ef rfl (ef_lit (z := .int .u8 0) Tryz.underlying23 (by kernel_rfl) rfl rfl rfl rfl rfl) rfl ?_
    rintro _ w10 ⟨g10, rfl, D10, hg10, ex⟩
    refine ⟨.inr ex, ?_⟩
    replace E := E.ext ex
    replace H1 := H1.ext ex
    replace H2 := H2.ext ex
    replace H3 := H3.ext ex
    replace B1 := B1.ext ex
    replace R4 := R4.ext ex
    replace R5 := R5.ext ex
    skip
    refine wm_one 4 (by kernel_rfl) ?_; refine om_call rfl Tryz.func67 rfl rfl rfl (vec20_any A1 n1 c1 _ _ H1 (by omega)) rfl ?_
    rintro e w4 ⟨A6, k6, c6, rfl, R6, hk6, ex⟩
    refine ⟨_, rfl, .inr ex, ?_⟩
    replace E := E.ext ex
    replace H1 := H1.ext ex
    replace H2 := H2.ext ex
    replace H3 := H3.ext ex
    replace B1 := B1.ext ex
    replace R4 := R4.ext ex
    replace R5 := R5.ext ex
    replace D10 := D10.ext ex
    skip
    refine wm_one 5 (by kernel_rfl) ?_; refine om_call rfl Tryz.func65 rfl rfl rfl (three20_any A4 A5 A6 2 c4 2 c5 k6 c6 _ _ _ _ R4.bs (by omega) R5.bs (by omega) R6.bs (by omega)) rfl ?_
    rintro e w5 ⟨A7, c7, rfl, R7, ex⟩
    refine ⟨_, rfl, .inr ex, ?_⟩
    replace E := E.ext ex
    replace H1 := H1.ext ex
    replace H2 := H2.ext ex
    replace H3 := H3.ext ex
    replace B1 := B1.ext ex
    replace R4 := R4.ext ex
    replace R5 := R5.ext ex
    replace D10 := D10.ext ex
    replace R6 := R6.ext ex
    skip
    refine wm_one 8 (by kernel_rfl) ?_; refine om_call rfl Tryz.func59 rfl rfl rfl (refNum_any 8 x.ep _ (by omega) (by omega)) rfl ?_
    rintro e w6 ⟨A8, c8, rfl, R8, ex⟩
    refine ⟨_, rfl, .inr ex, ?_⟩
    replace E := E.ext ex
    replace H1 := H1.ext ex
    replace H2 := H2.ext ex
    replace H3 := H3.ext ex
    replace B1 := B1.ext ex
    replace R4 := R4.ext ex
    replace R5 := R5.ext ex
    replace D10 := D10.ext ex
    replace R6 := R6.ext ex
    replace R7 := R7.ext ex
    skip
    refine wm_one 9 (by kernel_rfl) ?_; refine om_call rfl Tryz.func64 rfl rfl rfl (join20_any A7 A8 _ c7 8 c8 _ _ _ R7.bs (by omega) R8.bs (by omega)) rfl ?_
    rintro e w7 ⟨A9, c9, rfl, R9, ex⟩
    refine ⟨_, rfl, .inr ex, ?_⟩
    replace E := E.ext ex
    replace H1 := H1.ext ex
    replace H2 := H2.ext ex
    replace H3 := H3.ext ex
    replace B1 := B1.ext ex
    replace R4 := R4.ext ex
    replace R5 := R5.ext ex
    replace D10 := D10.ext ex
    replace R6 := R6.ext ex
    replace R7 := R7.ext ex
    replace R8 := R8.ext ex
    skip
    refine wm_one 12 (by kernel_rfl) ?_; refine om_call rfl Tryz.func67 rfl rfl rfl (vec20_any A2 n2 c2 _ _ H2 (by omega)) rfl ?_
    rintro e w8 ⟨A10, k10, c10, rfl, R10, hk10, ex⟩
    refine ⟨_, rfl, .inr ex, ?_⟩
    replace E := E.ext ex
    replace H1 := H1.ext ex
    replace H2 := H2.ext ex
    replace H3 := H3.ext ex
    replace B1 := B1.ext ex
    replace R4 := R4.ext ex
    replace R5 := R5.ext ex
    replace D10 := D10.ext ex
    replace R6 := R6.ext ex
    replace R7 := R7.ext ex
    replace R8 := R8.ext ex
    replace R9 := R9.ext ex
    skip
    refine wm_one 15 (by kernel_rfl) ?_; refine om_call rfl Tryz.func67 rfl rfl rfl (vec20_any A3 n3 c3 _ _ H3 (by omega)) rfl ?_
    rintro e w9 ⟨A11, k11, c11, rfl, R11, hk11, ex⟩
    refine ⟨_, rfl, .inr ex, ?_⟩
    replace E := E.ext ex
    replace H1 := H1.ext ex
    replace H2 := H2.ext ex
    replace H3 := H3.ext ex
    replace B1 := B1.ext ex
    replace R4 := R4.ext ex
    replace R5 := R5.ext ex
    replace D10 := D10.ext ex
    replace R6 := R6.ext ex
    replace R7 := R7.ext ex
    replace R8 := R8.ext ex
    replace R9 := R9.ext ex
    replace R10 := R10.ext ex
    skip
    refine wm_one 17 (by kernel_rfl) ?_; refine om_call rfl Tryz.func65 rfl rfl rfl (three20_any A10 A11 _ k10 c10 k11 c11 1 1 _ _ _ _ R10.bs (by omega) R11.bs (by omega) (bs_blk' (xs := [(0 : UInt8)]) (D10.congr (by rfl)) rfl) (by omega)) rfl ?_
    rintro e w11 ⟨A12, c12, rfl, R12, ex⟩
    refine ⟨_, rfl, .inr ex, ?_⟩
    replace E := E.ext ex
    replace H1 := H1.ext ex
    replace H2 := H2.ext ex
    replace H3 := H3.ext ex
    replace B1 := B1.ext ex
    replace R4 := R4.ext ex
    replace R5 := R5.ext ex
    replace D10 := D10.ext ex
    replace R6 := R6.ext ex
    replace R7 := R7.ext ex
    replace R8 := R8.ext ex
    replace R9 := R9.ext ex
    replace R10 := R10.ext ex
    replace R11 := R11.ext ex
    skip
    have hs0 := E
    refine wm_one 18 (by kernel_rfl) ?_; refine om_call rfl Tryz.func64 rfl rfl rfl (join20_any A9 A12 _ c9 _ c12 _ _ _ R9.bs (by omega) R12.bs (by omega)) rfl ?_
    rintro e w12 ⟨A13, c13, rfl, R13, ex⟩
    refine ⟨_, rfl, .inr ex, ?_⟩
    replace E := E.ext ex
    replace H1 := H1.ext ex
    replace H2 := H2.ext ex
    replace H3 := H3.ext ex
    replace B1 := B1.ext ex
    replace R4 := R4.ext ex
    replace R5 := R5.ext ex
    replace D10 := D10.ext ex
    replace R6 := R6.ext ex
    replace R7 := R7.ext ex
    replace R8 := R8.ext ex
    replace R9 := R9.ext ex
    replace R10 := R10.ext ex
    replace R11 := R11.ext ex
    replace R12 := R12.ext ex
    replace R13 := R13.lower hs0.size
    refine wm_y 19 rfl (by kernel_rfl) (y_assign rfl) rfl ?_
    refine wm_done (by kernel_rfl) ?_
    refine wq_nop ?_
    refine wq_then_norm (hK2 ?_)
    refine wc_ret ?_
    refine hret rfl ?_
    have e : ((Wire.be 2 1 ++ Wire.be 2 1 ++ Wire.vec x.grp) ++ Wire.be 8 x.ep ++ (Wire.vec x.tree ++ Wire.vec x.trans ++ [0])) = ctxBytes x := by unfold ctxBytes; simp
    rw [e] at R13
    have hf := R13.bs.1
    exact ⟨A13, _, c13, rfl, R13, by omega, E⟩
  ·skip
   refine om_ef rfl (ef_lit (z := .int .u8 0) Tryz.underlying23 (by kernel_rfl) rfl rfl rfl rfl rfl) rfl ?_
   rintro _ w10 ⟨g10, rfl, D10, hg10, ex⟩
   refine ⟨.inr ex, ?_⟩
   replace E := E.ext ex
   replace H1 := H1.ext ex
   replace H2 := H2.ext ex
   replace H3 := H3.ext ex
   replace B1 := B1.ext ex
   replace R4 := R4.ext ex
   skip
   refine wm_one 1 (by kernel_rfl) ?_; refine om_call rfl Tryz.func137 rfl rfl rfl (two20_any 1 _ (by omega)) rfl ?_
   rintro e w3 ⟨A5, c5, rfl, R5, ex⟩
   refine ⟨_, rfl, .inr ex, ?_⟩
   replace E := E.ext ex
   replace H1 := H1.ext ex
   replace H2 := H2.ext ex
   replace H3 := H3.ext ex
   replace B1 := B1.ext ex
   replace R4 := R4.ext ex
   replace D10 := D10.ext ex
   skip
   refine wm_one 4 (by kernel_rfl) ?_; refine om_call rfl Tryz.func67 rfl rfl rfl (vec20_any A1 n1 c1 _ _ H1 (by omega)) rfl ?_
   rintro e w4 ⟨A6, k6, c6, rfl, R6, hk6, ex⟩
   refine ⟨_, rfl, .inr ex, ?_⟩
   replace E := E.ext ex
   replace H1 := H1.ext ex
   replace H2 := H2.ext ex
   replace H3 := H3.ext ex
   replace B1 := B1.ext ex
   replace R4 := R4.ext ex
   replace D10 := D10.ext ex
   replace R5 := R5.ext ex
   skip
   refine wm_one 5 (by kernel_rfl) ?_; refine om_call rfl Tryz.func65 rfl rfl rfl (three20_any A4 A5 A6 2 c4 2 c5 k6 c6 _ _ _ _ R4.bs (by omega) R5.bs (by omega) R6.bs (by omega)) rfl ?_
   rintro e w5 ⟨A7, c7, rfl, R7, ex⟩
   refine ⟨_, rfl, .inr ex, ?_⟩
   replace E := E.ext ex
   replace H1 := H1.ext ex
   replace H2 := H2.ext ex
   replace H3 := H3.ext ex
   replace B1 := B1.ext ex
   replace R4 := R4.ext ex
   replace D10 := D10.ext ex
   replace R5 := R5.ext ex
   replace R6 := R6.ext ex
   skip
   refine wm_one 8 (by kernel_rfl) ?_; refine om_call rfl Tryz.func59 rfl rfl rfl (refNum_any 8 x.ep _ (by omega) (by omega)) rfl ?_
   rintro e w6 ⟨A8, c8, rfl, R8, ex⟩
   refine ⟨_, rfl, .inr ex, ?_⟩
   replace E := E.ext ex
   replace H1 := H1.ext ex
   replace H2 := H2.ext ex
   replace H3 := H3.ext ex
   replace B1 := B1.ext ex
   replace R4 := R4.ext ex
   replace D10 := D10.ext ex
   replace R5 := R5.ext ex
   replace R6 := R6.ext ex
   replace R7 := R7.ext ex
   skip
   refine wm_one 9 (by kernel_rfl) ?_; refine om_call rfl Tryz.func64 rfl rfl rfl (join20_any A7 A8 _ c7 8 c8 _ _ _ R7.bs (by omega) R8.bs (by omega)) rfl ?_
   rintro e w7 ⟨A9, c9, rfl, R9, ex⟩
   refine ⟨_, rfl, .inr ex, ?_⟩
   replace E := E.ext ex
   replace H1 := H1.ext ex
   replace H2 := H2.ext ex
   replace H3 := H3.ext ex
   replace B1 := B1.ext ex
   replace R4 := R4.ext ex
   replace D10 := D10.ext ex
   replace R5 := R5.ext ex
   replace R6 := R6.ext ex
   replace R7 := R7.ext ex
   replace R8 := R8.ext ex
   skip
   refine wm_one 12 (by kernel_rfl) ?_; refine om_call rfl Tryz.func67 rfl rfl rfl (vec20_any A2 n2 c2 _ _ H2 (by omega)) rfl ?_
   rintro e w8 ⟨A10, k10, c10, rfl, R10, hk10, ex⟩
   refine ⟨_, rfl, .inr ex, ?_⟩
   replace E := E.ext ex
   replace H1 := H1.ext ex
   replace H2 := H2.ext ex
   replace H3 := H3.ext ex
   replace B1 := B1.ext ex
   replace R4 := R4.ext ex
   replace D10 := D10.ext ex
   replace R5 := R5.ext ex
   replace R6 := R6.ext ex
   replace R7 := R7.ext ex
   replace R8 := R8.ext ex
   replace R9 := R9.ext ex
   skip
   refine wm_one 15 (by kernel_rfl) ?_; refine om_call rfl Tryz.func67 rfl rfl rfl (vec20_any A3 n3 c3 _ _ H3 (by omega)) rfl ?_
   rintro e w9 ⟨A11, k11, c11, rfl, R11, hk11, ex⟩
   refine ⟨_, rfl, .inr ex, ?_⟩
   replace E := E.ext ex
   replace H1 := H1.ext ex
   replace H2 := H2.ext ex
   replace H3 := H3.ext ex
   replace B1 := B1.ext ex
   replace R4 := R4.ext ex
   replace D10 := D10.ext ex
   replace R5 := R5.ext ex
   replace R6 := R6.ext ex
   replace R7 := R7.ext ex
   replace R8 := R8.ext ex
   replace R9 := R9.ext ex
   replace R10 := R10.ext ex
   skip
   refine wm_one 17 (by kernel_rfl) ?_; refine om_call rfl Tryz.func65 rfl rfl rfl (three20_any A10 A11 _ k10 c10 k11 c11 1 1 _ _ _ _ R10.bs (by omega) R11.bs (by omega) (bs_blk' (xs := [(0 : UInt8)]) (D10.congr (by rfl)) rfl) (by omega)) rfl ?_
   rintro e w11 ⟨A12, c12, rfl, R12, ex⟩
   refine ⟨_, rfl, .inr ex, ?_⟩
   replace E := E.ext ex
   replace H1 := H1.ext ex
   replace H2 := H2.ext ex
   replace H3 := H3.ext ex
   replace B1 := B1.ext ex
   replace R4 := R4.ext ex
   replace D10 := D10.ext ex
   replace R5 := R5.ext ex
   replace R6 := R6.ext ex
   replace R7 := R7.ext ex
   replace R8 := R8.ext ex
   replace R9 := R9.ext ex
   replace R10 := R10.ext ex
   replace R11 := R11.ext ex
   skip
   have hs0 := E
   refine wm_one 18 (by kernel_rfl) ?_; refine om_call rfl Tryz.func64 rfl rfl rfl (join20_any A9 A12 _ c9 _ c12 _ _ _ R9.bs (by omega) R12.bs (by omega)) rfl ?_
   rintro e w12 ⟨A13, c13, rfl, R13, ex⟩
   refine ⟨_, rfl, .inr ex, ?_⟩
   replace E := E.ext ex
   replace H1 := H1.ext ex
   replace H2 := H2.ext ex
   replace H3 := H3.ext ex
   replace B1 := B1.ext ex
   replace R4 := R4.ext ex
   replace D10 := D10.ext ex
   replace R5 := R5.ext ex
   replace R6 := R6.ext ex
   replace R7 := R7.ext ex
   replace R8 := R8.ext ex
   replace R9 := R9.ext ex
   replace R10 := R10.ext ex
   replace R11 := R11.ext ex
   replace R12 := R12.ext ex
   replace R13 := R13.lower hs0.size
   refine wm_y 19 rfl (by kernel_rfl) (y_assign rfl) rfl ?_
   refine wm_done (by kernel_rfl) ?_
   refine wq_nop ?_
   refine wq_then_norm (hK2 ?_)
   refine wc_ret ?_
   refine hret rfl ?_
   have e : ((Wire.be 2 1 ++ Wire.be 2 1 ++ Wire.vec x.grp) ++ Wire.be 8 x.ep ++ (Wire.vec x.tree ++ Wire.vec x.trans ++ [0])) = ctxBytes x := by unfold ctxBytes; simp
   rw [e] at R13
   have hf := R13.bs.1
   exact ⟨A13, _, c13, rfl, R13, by omega, E⟩
 ·skip
  refine om_ef rfl (ef_lit (z := .int .u8 0) Tryz.underlying23 (by kernel_rfl) rfl rfl rfl rfl rfl) rfl ?_
  rintro _ w10 ⟨g10, rfl, D10, hg10, ex⟩
  refine ⟨.inr ex, ?_⟩
  replace E := E.ext ex
  replace H1 := H1.ext ex
  replace H2 := H2.ext ex
  replace H3 := H3.ext ex
  replace B1 := B1.ext ex
  skip
  refine wm_one 0 (by kernel_rfl) ?_; refine om_call rfl Tryz.func137 rfl rfl rfl (two20_any 1 _ (by omega)) rfl ?_
  rintro e w2 ⟨A4, c4, rfl, R4, ex⟩
  refine ⟨_, rfl, .inr ex, ?_⟩
  replace E := E.ext ex
  replace H1 := H1.ext ex
  replace H2 := H2.ext ex
  replace H3 := H3.ext ex
  replace B1 := B1.ext ex
  replace D10 := D10.ext ex
  skip
  refine wm_one 1 (by kernel_rfl) ?_; refine om_call rfl Tryz.func137 rfl rfl rfl (two20_any 1 _ (by omega)) rfl ?_
  rintro e w3 ⟨A5, c5, rfl, R5, ex⟩
  refine ⟨_, rfl, .inr ex, ?_⟩
  replace E := E.ext ex
  replace H1 := H1.ext ex
  replace H2 := H2.ext ex
  replace H3 := H3.ext ex
  replace B1 := B1.ext ex
  replace D10 := D10.ext ex
  replace R4 := R4.ext ex
  skip
  refine wm_one 4 (by kernel_rfl) ?_; refine om_call rfl Tryz.func67 rfl rfl rfl (vec20_any A1 n1 c1 _ _ H1 (by omega)) rfl ?_
  rintro e w4 ⟨A6, k6, c6, rfl, R6, hk6, ex⟩
  refine ⟨_, rfl, .inr ex, ?_⟩
  replace E := E.ext ex
  replace H1 := H1.ext ex
  replace H2 := H2.ext ex
  replace H3 := H3.ext ex
  replace B1 := B1.ext ex
  replace D10 := D10.ext ex
  replace R4 := R4.ext ex
  replace R5 := R5.ext ex
  skip
  refine wm_one 5 (by kernel_rfl) ?_; refine om_call rfl Tryz.func65 rfl rfl rfl (three20_any A4 A5 A6 2 c4 2 c5 k6 c6 _ _ _ _ R4.bs (by omega) R5.bs (by omega) R6.bs (by omega)) rfl ?_
  rintro e w5 ⟨A7, c7, rfl, R7, ex⟩
  refine ⟨_, rfl, .inr ex, ?_⟩
  replace E := E.ext ex
  replace H1 := H1.ext ex
  replace H2 := H2.ext ex
  replace H3 := H3.ext ex
  replace B1 := B1.ext ex
  replace D10 := D10.ext ex
  replace R4 := R4.ext ex
  replace R5 := R5.ext ex
  replace R6 := R6.ext ex
  skip
  refine wm_one 8 (by kernel_rfl) ?_; refine om_call rfl Tryz.func59 rfl rfl rfl (refNum_any 8 x.ep _ (by omega) (by omega)) rfl ?_
  rintro e w6 ⟨A8, c8, rfl, R8, ex⟩
  refine ⟨_, rfl, .inr ex, ?_⟩
  replace E := E.ext ex
  replace H1 := H1.ext ex
  replace H2 := H2.ext ex
  replace H3 := H3.ext ex
  replace B1 := B1.ext ex
  replace D10 := D10.ext ex
  replace R4 := R4.ext ex
  replace R5 := R5.ext ex
  replace R6 := R6.ext ex
  replace R7 := R7.ext ex
  skip
  refine wm_one 9 (by kernel_rfl) ?_; refine om_call rfl Tryz.func64 rfl rfl rfl (join20_any A7 A8 _ c7 8 c8 _ _ _ R7.bs (by omega) R8.bs (by omega)) rfl ?_
  rintro e w7 ⟨A9, c9, rfl, R9, ex⟩
  refine ⟨_, rfl, .inr ex, ?_⟩
  replace E := E.ext ex
  replace H1 := H1.ext ex
  replace H2 := H2.ext ex
  replace H3 := H3.ext ex
  replace B1 := B1.ext ex
  replace D10 := D10.ext ex
  replace R4 := R4.ext ex
  replace R5 := R5.ext ex
  replace R6 := R6.ext ex
  replace R7 := R7.ext ex
  replace R8 := R8.ext ex
  skip
  refine wm_one 12 (by kernel_rfl) ?_; refine om_call rfl Tryz.func67 rfl rfl rfl (vec20_any A2 n2 c2 _ _ H2 (by omega)) rfl ?_
  rintro e w8 ⟨A10, k10, c10, rfl, R10, hk10, ex⟩
  refine ⟨_, rfl, .inr ex, ?_⟩
  replace E := E.ext ex
  replace H1 := H1.ext ex
  replace H2 := H2.ext ex
  replace H3 := H3.ext ex
  replace B1 := B1.ext ex
  replace D10 := D10.ext ex
  replace R4 := R4.ext ex
  replace R5 := R5.ext ex
  replace R6 := R6.ext ex
  replace R7 := R7.ext ex
  replace R8 := R8.ext ex
  replace R9 := R9.ext ex
  skip
  refine wm_one 15 (by kernel_rfl) ?_; refine om_call rfl Tryz.func67 rfl rfl rfl (vec20_any A3 n3 c3 _ _ H3 (by omega)) rfl ?_
  rintro e w9 ⟨A11, k11, c11, rfl, R11, hk11, ex⟩
  refine ⟨_, rfl, .inr ex, ?_⟩
  replace E := E.ext ex
  replace H1 := H1.ext ex
  replace H2 := H2.ext ex
  replace H3 := H3.ext ex
  replace B1 := B1.ext ex
  replace D10 := D10.ext ex
  replace R4 := R4.ext ex
  replace R5 := R5.ext ex
  replace R6 := R6.ext ex
  replace R7 := R7.ext ex
  replace R8 := R8.ext ex
  replace R9 := R9.ext ex
  replace R10 := R10.ext ex
  skip
  refine wm_one 17 (by kernel_rfl) ?_; refine om_call rfl Tryz.func65 rfl rfl rfl (three20_any A10 A11 _ k10 c10 k11 c11 1 1 _ _ _ _ R10.bs (by omega) R11.bs (by omega) (bs_blk' (xs := [(0 : UInt8)]) (D10.congr (by rfl)) rfl) (by omega)) rfl ?_
  rintro e w11 ⟨A12, c12, rfl, R12, ex⟩
  refine ⟨_, rfl, .inr ex, ?_⟩
  replace E := E.ext ex
  replace H1 := H1.ext ex
  replace H2 := H2.ext ex
  replace H3 := H3.ext ex
  replace B1 := B1.ext ex
  replace D10 := D10.ext ex
  replace R4 := R4.ext ex
  replace R5 := R5.ext ex
  replace R6 := R6.ext ex
  replace R7 := R7.ext ex
  replace R8 := R8.ext ex
  replace R9 := R9.ext ex
  replace R10 := R10.ext ex
  replace R11 := R11.ext ex
  skip
  have hs0 := E
  refine wm_one 18 (by kernel_rfl) ?_; refine om_call rfl Tryz.func64 rfl rfl rfl (join20_any A9 A12 _ c9 _ c12 _ _ _ R9.bs (by omega) R12.bs (by omega)) rfl ?_
  rintro e w12 ⟨A13, c13, rfl, R13, ex⟩
  refine ⟨_, rfl, .inr ex, ?_⟩
  replace E := E.ext ex
  replace H1 := H1.ext ex
  replace H2 := H2.ext ex
  replace H3 := H3.ext ex
  replace B1 := B1.ext ex
  replace D10 := D10.ext ex
  replace R4 := R4.ext ex
  replace R5 := R5.ext ex
  replace R6 := R6.ext ex
  replace R7 := R7.ext ex
  replace R8 := R8.ext ex
  replace R9 := R9.ext ex
  replace R10 := R10.ext ex
  replace R11 := R11.ext ex
  replace R12 := R12.ext ex
  replace R13 := R13.lower hs0.size
  refine wm_y 19 rfl (by kernel_rfl) (y_assign rfl) rfl ?_
  refine wm_done (by kernel_rfl) ?_
  refine wq_nop ?_
  refine wq_then_norm (hK2 ?_)
  refine wc_ret ?_
  refine hret rfl ?_
  have e : ((Wire.be 2 1 ++ Wire.be 2 1 ++ Wire.vec x.grp) ++ Wire.be 8 x.ep ++ (Wire.vec x.tree ++ Wire.vec x.trans ++ [0])) = ctxBytes x := by unfold ctxBytes; simp
  rw [e] at R13
  have hf := R13.bs.1
  exact ⟨A13, _, c13, rfl, R13, by omega, E⟩
end Go.Proofs.YtjllhimhiekchaaGreat
