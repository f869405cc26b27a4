/- A context and its bytes: what msg and the reference hand back. -/
import Derived.Test.YtpgalbgonmclaaaGreatKdfB
import Derived.Test.YtpgalbgonmclaaaGreatVc7
namespace Go.Proofs.YtpgalbgonmclaaaGreat
open Go.RowKit
attribute [local irreducible] Y Ef WL WC WK WQ WM OpM WN WF OpN
/-- A context, plainly. -/
structure Ctx where
  grp : List UInt8
  ep : Nat
  tree : List UInt8
  trans : List UInt8
/-- Its four cells. -/
def ctxV (A1 A2 A3 : Option Addr) (n1 c1 n2 c2 n3 c3 e : Nat) : Array Value := #[.slice A1 n1 c1, .int .u64 (e : Int), .slice A2 n2 c2, .slice A3 n3 c3]
def CtxAt (w : World) (cs : Array Value) (c : Ctx) : Prop := ∃ A1 A2 A3 n1 c1 n2 c2 n3 c3, cs = ctxV A1 A2 A3 n1 c1 n2 c2 n3 c3 c.ep ∧ Bs w A1 n1 c.grp ∧ Bs w A2 n2 c.tree ∧ Bs w A3 n3 c.trans
theorem CtxAt.ext {w w' : World} {cs : Array Value} {c : Ctx} (h : CtxAt w cs c) (k : Ext w w') : CtxAt w' cs c := by
  obtain ⟨A1, A2, A3, n1, c1, n2, c2, n3, c3, h0, h1, h2, h3⟩ := h
  exact ⟨A1, A2, A3, n1, c1, n2, c2, n3, c3, h0, h1.ext k, h2.ext k, h3.ext k⟩
theorem CtxAt.wk {w w' : World} {cs : Array Value} {c : Ctx} (h : CtxAt w cs c) (k : Ext w w') : CtxAt w' cs c := h.ext k
theorem CtxAt.size {w : World} {cs : Array Value} {c : Ctx} (h : CtxAt w cs c) : cs.size = 4 := by
  obtain ⟨A1, A2, A3, n1, c1, n2, c2, n3, c3, rfl, _⟩ := h; rfl
theorem mnum_any (A : Option Addr) (n c s x : Nat) (xs : List UInt8) (w : World) (HA : Bs w A n xs) (hn : n ≤ 70368744177664) (hs : s = 1 ∨ s = 2 ∨ s = 4 ∨ s = 8) (hx : x < 18446744073709551616) :
    Calls Tryz.prog 69 #[.slice A n c, .int .i64 (s : Int), .int .u64 (x : Int)] w fun e w' => ∃ A' c', e = .returned (.slice A' (n + s) c') ∧ Row w' w.heap.size 5 A' (n + s) c' ((xs ++ Wire.be s x).map bv) ∧ Ext w w' := by
  refine vc_enter1 11 Tryz.func69 rfl rfl rfl rfl ?_
  intro Q hret
  refine wc_seq ?_; intro K1 hK1
  refine wc_region ?_
  refine wl_y (y_assign rfl) rfl ?_
  refine wl_nil ?_
  refine wq_then_norm (hK1 ?_)
  refine wc_seq ?_; intro K2 hK2
  refine wc_region ?_
  refine wl_y (y_move rfl) rfl ?_
  refine wl_y (y_move rfl) rfl ?_
  refine wl_y (y_move rfl) rfl ?_
  refine wl_call Tryz.func112 rfl rfl rfl (putNum_any A n c s x xs _ HA hn hs hx) rfl ?_
  rintro e w1 ⟨A1, c1, rfl, R1, ex⟩
  refine ⟨_, rfl, ?_⟩
  skip
  refine wl_y (y_assign rfl) rfl ?_
  refine wl_nil ?_
  refine wq_then_norm (hK2 ?_)
  refine wc_ret ?_
  refine hret rfl ?_
  exact ⟨A1, c1, rfl, R1, ex⟩
theorem mvec_any (A B : Option Addr) (n c m d : Nat) (xs ys : List UInt8) (w : World) (HA : Bs w A n xs) (hn : n ≤ 35184372088832) (HB : Bs w B m ys) (hm : m < 1073741824) :
    Calls Tryz.prog 68 #[.slice A n c, .slice B m d] w fun e w' => ∃ A' k c', e = .returned (.slice A' k c') ∧ Row w' w.heap.size 5 A' k c' ((xs ++ Wire.vec ys).map bv) ∧ k = n + (Wire.lsz m + m) ∧ Ext w w' := by
  refine vc_enter1 8 Tryz.func68 rfl rfl rfl rfl ?_
  intro Q hret
  refine wc_seq ?_; intro K1 hK1
  refine wc_region ?_
  refine wl_y (y_assign rfl) rfl ?_
  refine wl_nil ?_
  refine wq_then_norm (hK1 ?_)
  refine wc_seq ?_; intro K2 hK2
  refine wc_region ?_
  refine wl_y (y_move rfl) rfl ?_
  refine wl_y (y_move rfl) rfl ?_
  refine wl_call Tryz.func111 rfl rfl rfl (putVec_any A B n c m d xs ys _ HA hn HB hm) rfl ?_
  rintro e w1 ⟨A1, k1, c1, rfl, R1, hk, ex⟩
  refine ⟨_, rfl, ?_⟩
  skip
  refine wl_y (y_assign rfl) rfl ?_
  refine wl_nil ?_
  refine wq_then_norm (hK2 ?_)
  refine wc_ret ?_
  refine hret rfl ?_
  exact ⟨A1, k1, c1, rfl, R1, hk, ex⟩
end Go.Proofs.YtpgalbgonmclaaaGreat
