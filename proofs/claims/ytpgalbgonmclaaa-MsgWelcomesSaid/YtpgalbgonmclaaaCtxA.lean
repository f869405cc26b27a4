/- A context and its bytes: what msg and the reference hand back. -/
import Derived.Test.YtpgalbgonmclaaaKdfB
import Derived.Test.YtpgalbgonmclaaaVc7
namespace Go.Proofs.Ytpgalbgonmclaaa
open Go.RowKit
attribute [local irreducible] Y Ef WL WC WK WQ WM OpM WN WF OpN
/-- A context, plainly. -/
structure Ctx where
  grp : List UInt8
  ep : Nat
  tree : List UInt8
  trans : List UInt8
/-- Its four cells. -/
def ctxV (A1 A2 A3 : Option Addr) (n1 c1 n2 c2 n3 c3 e : Nat) : Array Value := #[.slice A1 n1 c1, .int .u64 (e : Int), .slice A2 n2 c2, .slice A3 n3 c3]
def CtxAt (w : World) (cs : Array Value) (c : Ctx) : Prop := ∃ A1 A2 A3 n1 c1 n2 c2 n3 c3, cs = ctxV A1 A2 A3 n1 c1 n2 c2 n3 c3 c.ep ∧ Bs w A1 n1 c.grp ∧ Bs w A2 n2 c.tree ∧ Bs w A3 n3 c.trans
theorem CtxAt.ext {w w' : World} {cs : Array Value} {c : Ctx} (h : CtxAt w cs c) (k : Ext w w') : CtxAt w' cs c := by
  obtain ⟨A1, A2, A3, n1, c1, n2, c2, n3, c3, h0, h1, h2, h3⟩ := h
  exact ⟨A1, A2, A3, n1, c1, n2, c2, n3, c3, h0, h1.ext k, h2.ext k, h3.ext k⟩
theorem CtxAt.wk {w w' : World} {cs : Array Value} {c : Ctx} (h : CtxAt w cs c) (k : Ext w w') : CtxAt w' cs c := h.ext k
theorem CtxAt.size {w : World} {cs : Array Value} {c : Ctx} (h : CtxAt w cs c) : cs.size = 4 := by
  obtain ⟨A1, A2, A3, n1, c1, n2, c2, n3, c3, rfl, _⟩ := h; rfl
/-- It is no more than is looked at. -/
def Ctx.Small (c : Ctx) : Prop := c.grp.length ≤ 200 ∧ c.tree.length ≤ 200 ∧ c.trans.length ≤ 200 ∧ c.ep < 18446744073709551616
theorem mnum_any (A : Option Addr) (n c s x : Nat) (xs : List UInt8) (w : World) (HA : Bs w A n xs) (hn : n ≤ 70368744177664) (hs : s = 1 ∨ s = 2 ∨ s = 4 ∨ s = 8) (hx : x < 18446744073709551616) :
    Calls Try.prog 88 #[.slice A n c, .int .i64 (s : Int), .int .u64 (x : Int)] w fun e w' => ∃ A' c', e = .returned (.slice A' (n + s) c') ∧ Row w' w.heap.size 5 A' (n + s) c' ((xs ++ Wire.be s x).map bv) ∧ Ext w w' := by
  refine vc_enter1 11 Try.func88 rfl rfl rfl rfl ?_
  intro Q hret
  refine wc_seq ?_; intro K1 hK1
  refine wc_region ?_
  refine wl_y (y_assign rfl) rfl ?_
  refine wl_nil ?_
  refine wq_then_norm (hK1 ?_)
  refine wc_seq ?_; intro K2 hK2
  refine wc_region ?_
  refine wl_y (y_move rfl) rfl ?_
  refine wl_y (y_move rfl) rfl ?_
  refine wl_y (y_move rfl) rfl ?_
  refine wl_call Try.func155 rfl rfl rfl (putNum_any A n c s x xs _ HA hn hs hx) rfl ?_
  rintro e w1 ⟨A1, c1, rfl, R1, ex⟩
  refine ⟨_, rfl, ?_⟩
  skip
  refine wl_y (y_assign rfl) rfl ?_
  refine wl_nil ?_
  refine wq_then_norm (hK2 ?_)
  refine wc_ret ?_
  refine hret rfl ?_
  exact ⟨A1, c1, rfl, R1, ex⟩
theorem mvec_any (A B : Option Addr) (n c m d : Nat) (xs ys : List UInt8) (w : World) (HA : Bs w A n xs) (hn : n ≤ 35184372088832) (HB : Bs w B m ys) (hm : m < 1073741824) :
    Calls Try.prog 87 #[.slice A n c, .slice B m d] w fun e w' => ∃ A' k c', e = .returned (.slice A' k c') ∧ Row w' w.heap.size 5 A' k c' ((xs ++ Wire.vec ys).map bv) ∧ k = n + (Wire.lsz m + m) ∧ Ext w w' := by
  refine vc_enter1 8 Try.func87 rfl rfl rfl rfl ?_
  intro Q hret
  refine wc_seq ?_; intro K1 hK1
  refine wc_region ?_
  refine wl_y (y_assign rfl) rfl ?_
  refine wl_nil ?_
  refine wq_then_norm (hK1 ?_)
  refine wc_seq ?_; intro K2 hK2
  refine wc_region ?_
  refine wl_y (y_move rfl) rfl ?_
  refine wl_y (y_move rfl) rfl ?_
  refine wl_call Try.func154 rfl rfl rfl (putVec_any A B n c m d xs ys _ HA hn HB hm) rfl ?_
  rintro e w1 ⟨A1, k1, c1, rfl, R1, hk, ex⟩
  refine ⟨_, rfl, ?_⟩
  skip
  refine wl_y (y_assign rfl) rfl ?_
  refine wl_nil ?_
  refine wq_then_norm (hK2 ?_)
  refine wc_ret ?_
  refine hret rfl ?_
  exact ⟨A1, k1, c1, rfl, R1, hk, ex⟩
theorem join20_any (A B : Option Addr) (n c m d : Nat) (xs ys : List UInt8) (w : World) (HA : Bs w A n xs) (hn : n ≤ 35184372088832) (HB : Bs w B m ys) (hm : m ≤ 35184372088832) :
    Calls Try.prog 76 #[.slice A n c, .slice B m d] w fun e w' => ∃ A' c', e = .returned (.slice A' (n + m) c') ∧ Row w' w.heap.size 5 A' (n + m) c' ((xs ++ ys).map bv) ∧ Ext w w' := by
  refine vc_enter1 10 Try.func76 rfl rfl rfl rfl ?_
  intro Q hret
  refine wc_seq ?_; intro K1 hK1
  refine wc_region ?_
  refine wl_y (y_assign rfl) rfl ?_
  refine wl_nil ?_
  refine wq_then_norm (hK1 ?_)
  refine wc_seq ?_; intro K2 hK2
  refine wc_region ?_
  refine wl_ef (ef_lit (z := .int .u8 0) Try.underlying22 (by kernel_rfl) rfl rfl rfl rfl rfl) rfl ?_
  rintro _ w1 ⟨g1, rfl, B1, hg1, ex⟩
  have E1 := ex; have R1 : Row w1 w.heap.size 5 (some ⟨g1, 0, none⟩) 0 0 [] := Row.new B1 hg1 rfl (by unfold maxLen; omega)
  refine wl_y (y_move rfl) rfl ?_
  refine wl_ef (ef_app0 rfl rfl eltB R1 (HA.ext E1).2 (by rw [List.length_map, HA.1]) (by intro u hu; exact bv_one u hu) (by omega) (by omega) E1.size) rfl ?_
  rintro _ w2 ⟨A2, c2, rfl, R2, be, gr, hl⟩
  have E2 := E1.trans be
  refine wl_y (y_move rfl) rfl ?_
  refine wl_ef (ef_app rfl rfl eltB R2 (HB.ext E2).2 (by rw [List.length_map, HB.1]) (by intro u hu; exact bv_one u hu) (by omega) (by omega) E2.size) rfl ?_
  rintro _ w3 ⟨A3, c3, rfl, R3, be, gr, hl⟩
  have E3 := E2.trans be
  refine wl_y (y_assign rfl) rfl ?_
  refine wl_nil ?_
  refine wq_then_norm (hK2 ?_)
  refine wc_ret ?_
  refine hret rfl ?_
  exact ⟨A3, c3, rfl, R3.cat, E3⟩
theorem three20_any (A B C : Option Addr) (n c m d k f : Nat) (xs ys zs : List UInt8) (w : World) (HA : Bs w A n xs) (hn : n ≤ 1000000) (HB : Bs w B m ys) (hm : m ≤ 1000000) (HC : Bs w C k zs) (hk : k ≤ 1000000) :
    Calls Try.prog 81 #[.slice A n c, .slice B m d, .slice C k f] w fun e w' => ∃ A' c', e = .returned (.slice A' (n + m + k) c') ∧ Row w' w.heap.size 5 A' (n + m + k) c' ((xs ++ ys ++ zs).map bv) ∧ Ext w w' := by
  refine vc_enter1 12 Try.func81 rfl rfl rfl rfl ?_
  intro Q hret
  refine wc_seq ?_; intro K1 hK1
  refine wc_region ?_
  refine wl_y (y_assign rfl) rfl ?_
  refine wl_nil ?_
  refine wq_then_norm (hK1 ?_)
  refine wc_seq ?_; intro K2 hK2
  refine wc_region ?_
  refine wl_y (y_move rfl) rfl ?_
  refine wl_y (y_move rfl) rfl ?_
  refine wl_call Try.func76 rfl rfl rfl (join20_any A B n c m d xs ys _ HA (by omega) HB (by omega)) rfl ?_
  rintro e w1 ⟨A1, c1, rfl, R1, ex⟩
  refine ⟨_, rfl, ?_⟩
  replace HC := HC.ext ex
  have E1 := ex
  refine wl_y (y_move rfl) rfl ?_
  refine wl_call Try.func76 rfl rfl rfl (join20_any A1 C _ c1 k f _ zs _ R1.bs (by omega) HC (by omega)) rfl ?_
  rintro e w2 ⟨A2, c2, rfl, R2, ex⟩
  refine ⟨_, rfl, ?_⟩
  replace HC := HC.ext ex
  have E2 := E1.ext ex
  refine wl_y (y_assign rfl) rfl ?_
  refine wl_nil ?_
  refine wq_then_norm (hK2 ?_)
  refine wc_ret ?_
  refine hret rfl ?_
  exact ⟨A2, c2, rfl, R2.lower E1.size, E2⟩
theorem two20_any (x : Nat) (w : World) (hx : x < 18446744073709551616) :
    Calls Try.prog 96 #[.int .u64 (x : Int)] w fun e w' => ∃ A' c', e = .returned (.slice A' 2 c') ∧ Row w' w.heap.size 5 A' 2 c' ((Wire.be 2 x).map bv) ∧ Ext w w' := by
  refine vc_enter1 5 Try.func96 rfl rfl rfl rfl ?_
  intro Q hret
  refine wc_seq ?_; intro K1 hK1
  refine wc_region ?_
  refine wl_y (y_assign rfl) rfl ?_
  refine wl_nil ?_
  refine wq_then_norm (hK1 ?_)
  refine wc_seq ?_; intro K2 hK2
  refine wc_region ?_
  refine wl_y (y_move rfl) rfl ?_
  refine wl_call Try.func97 rfl rfl rfl (refNum_any 2 x _ (by omega) hx) rfl ?_
  rintro e w1 ⟨A1, c1, rfl, R1, ex⟩
  refine ⟨_, rfl, ?_⟩
  skip
  refine wl_y (y_assign rfl) rfl ?_
  refine wl_nil ?_
  refine wq_then_norm (hK2 ?_)
  refine wc_ret ?_
  refine hret rfl ?_
  exact ⟨A1, c1, rfl, R1, ex⟩
theorem vec20_any (B : Option Addr) (m d : Nat) (ys : List UInt8) (w : World) (HB : Bs w B m ys) (hm : m < 1073741824) :
    Calls Try.prog 82 #[.slice B m d] w fun e w' => ∃ A' k c', e = .returned (.slice A' k c') ∧ Row w' w.heap.size 5 A' k c' ((Wire.vec ys).map bv) ∧ k = Wire.lsz m + m ∧ Ext w w' := by
  refine vc_enter1 5 Try.func82 rfl rfl rfl rfl ?_
  intro Q hret
  refine wc_seq ?_; intro K1 hK1
  refine wc_region ?_
  refine wl_y (y_assign rfl) rfl ?_
  refine wl_nil ?_
  refine wq_then_norm (hK1 ?_)
  refine wc_seq ?_; intro K2 hK2
  refine wc_region ?_
  refine wl_y (y_move rfl) rfl ?_
  refine wl_call Try.func51 rfl rfl rfl (refVec_any B m d ys _ HB hm) rfl ?_
  rintro e w1 ⟨A1, k1, c1, rfl, R1, hk, ex⟩
  refine ⟨_, rfl, ?_⟩
  skip
  refine wl_y (y_assign rfl) rfl ?_
  refine wl_nil ?_
  refine wq_then_norm (hK2 ?_)
  refine wc_ret ?_
  refine hret rfl ?_
  exact ⟨A1, k1, c1, rfl, R1, hk, ex⟩
end Go.Proofs.Ytpgalbgonmclaaa
