/- The bytes of messages: what msg tells, and what the reference hands back. -/
import Derived.Test.YtpgalbgonmclaaaRowC
namespace Go.Proofs.Ytpgalbgonmclaaa
open Go.RowKit
attribute [local irreducible] Y Ef WL WC WK WQ WM OpM WN WF OpN WG OpG
open Nd Wire
instance (c : Ctx) : Decidable c.Small := by unfold Ctx.Small; infer_instance
section
variable {cs ds : Array Value} {m : Mess} {c : Ctx}
theorem Told.of {w : World} {ok : Prop} [Decidable ok] {xs : List UInt8} {A : Option Addr} {k d z : Nat} (T : decide ok = true → z = 0 ∧ Bs w A k xs ∧ k ≤ d) (N : decide ok = false → z = 3 ∧ A = none ∧ k = 0 ∧ d = 0) : Told w ok xs A k z ∧ k ≤ d :=
  ⟨⟨fun o => ⟨(T (decide_eq_true o)).1, (T (decide_eq_true o)).2.1⟩, fun o => ⟨(N (decide_eq_false o)).1, (N (decide_eq_false o)).2.2.1⟩⟩, by
    by_cases o : ok
    · exact (T (decide_eq_true o)).2.2
    · have h := N (decide_eq_false o); omega⟩
/-! The reference. -/
theorem smallCtx20_any (w : World) (H : CtxAt w ds c) (he : c.ep < 18446744073709551616) :
    Calls Try.prog 21 #[.agg ds] w fun e w' => e = .returned (.bool (decide c.Small)) ∧ Ext w w' := by
  obtain ⟨A1, A2, A3, n1, d1, n2, d2, n3, d3, rfl, H1, H2, H3⟩ := H
  have m1 := H1.1; have m2 := H2.1; have m3 := H3.1
  have E := Ext.refl w
  refine vc_enter1 19 Try.func21 rfl rfl rfl rfl ?_
  intro Q hret
  refine wc_seq ?_; intro K1 hK1
  refine wc_region ?_
  refine wl_ef (ef_box (cs := ctxV A1 A2 A3 n1 d1 n2 d2 n3 d3 c.ep) rfl rfl) rfl ?_
  rintro _ w1 ⟨g1, rfl, B1, hg1, ex⟩
  replace E := E.ext ex
  skip
  refine wl_y (y_assign rfl) rfl ?_
  refine wl_nil ?_
  refine wq_then_norm (hK1 ?_)
  refine wc_seq ?_; intro K2 hK2
  refine wc_region ?_
  refine wl_y (y_fieldAddr (o := 0) (s := 1) (off := 0) (o' := 0) rfl Try.underlying50 rfl (by kernel_rfl) rfl rfl) rfl ?_
  refine wl_y (y_load1 rfl Try.underlying22 rfl (B1.get (i := 0) rfl)) rfl ?_
  refine wl_y (y_len_slice rfl Try.underlying22) rfl ?_
  refine wl_y (y_leq rfl rfl) rfl ?_
  refine wl_yask (y_move rfl) rfl (fun q0 => ?_) (fun q0 => ?_)
  · skip
    refine wl_gy 7 rfl rfl (y_fieldAddr (o := 2) (s := 1) (off := 0) (o' := 2) rfl Try.underlying50 rfl (by kernel_rfl) rfl rfl) rfl ?_
    refine wl_gy 7 rfl rfl (y_load1 rfl Try.underlying22 rfl (B1.get (i := 2) rfl)) rfl ?_
    refine wl_gy 7 rfl rfl (y_len_slice rfl Try.underlying22) rfl ?_
    refine wl_gy 7 rfl rfl (y_leq rfl rfl) rfl ?_
    refine wl_y (y_pickt rfl rfl) rfl ?_
    refine wl_yask (y_move rfl) rfl (fun q1 => ?_) (fun q1 => ?_)
    · skip
      refine wl_gy 13 rfl rfl (y_fieldAddr (o := 3) (s := 1) (off := 0) (o' := 3) rfl Try.underlying50 rfl (by kernel_rfl) rfl rfl) rfl ?_
      refine wl_gy 13 rfl rfl (y_load1 rfl Try.underlying22 rfl (B1.get (i := 3) rfl)) rfl ?_
      refine wl_gy 13 rfl rfl (y_len_slice rfl Try.underlying22) rfl ?_
      refine wl_gy 13 rfl rfl (y_leq rfl rfl) rfl ?_
      refine wl_y (y_pickt rfl rfl) rfl ?_
      refine wl_y (y_assign rfl) rfl ?_
      refine wl_nil ?_
      refine wq_then_norm (hK2 ?_)
      refine wc_ret ?_
      refine hret rfl ?_
      exact ⟨ret_bool ⟨fun h => ⟨by omega, by omega, by omega, he⟩, fun h => by have := h.2.2.1; omega⟩, E⟩
    · skip
      refine wl_gno 13 rfl rfl rfl rfl ?_
      refine wl_gno 13 rfl rfl rfl rfl ?_
      refine wl_gno 13 rfl rfl rfl rfl ?_
      refine wl_gno 13 rfl rfl rfl rfl ?_
      refine wl_y (y_pickf rfl rfl) rfl ?_
      refine wl_y (y_assign rfl) rfl ?_
      refine wl_nil ?_
      refine wq_then_norm (hK2 ?_)
      refine wc_ret ?_
      refine hret rfl ?_
      exact ⟨ret_no fun h => by have := h.2.1; omega, E⟩
  · skip
    refine wl_gno 7 rfl rfl rfl rfl ?_
    refine wl_gno 7 rfl rfl rfl rfl ?_
    refine wl_gno 7 rfl rfl rfl rfl ?_
    refine wl_gno 7 rfl rfl rfl rfl ?_
    refine wl_y (y_pickf rfl rfl) rfl ?_
    refine wl_y (y_move rfl) rfl ?_
    refine wl_gno 13 rfl rfl rfl rfl ?_
    refine wl_gno 13 rfl rfl rfl rfl ?_
    refine wl_gno 13 rfl rfl rfl rfl ?_
    refine wl_gno 13 rfl rfl rfl rfl ?_
    refine wl_y (y_pickf rfl rfl) rfl ?_
    refine wl_y (y_assign rfl) rfl ?_
    refine wl_nil ?_
    refine wq_then_norm (hK2 ?_)
    refine wc_ret ?_
    refine hret rfl ?_
    exact ⟨ret_no fun h => by have := h.1; omega, E⟩
end
end Go.Proofs.Ytpgalbgonmclaaa
