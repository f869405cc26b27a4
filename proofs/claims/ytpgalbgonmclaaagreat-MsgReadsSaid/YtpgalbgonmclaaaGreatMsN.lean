/- The bytes of messages: what msg tells, and what the reference hands back. -/
import Derived.Test.YtpgalbgonmclaaaGreatMsM
namespace Go.Proofs.YtpgalbgonmclaaaGreat
open Go.RowKit
attribute [local irreducible] Y Ef WL WC WK WQ WM OpM WN WF OpN
open Nd Wire
section
variable {cs ds : Array Value} {m : Mess} {c : Ctx}
theorem Told.of {w : World} {ok : Prop} [Decidable ok] {xs : List UInt8} {A : Option Addr} {k d z : Nat} (T : decide ok = true → z = 0 ∧ Bs w A k xs ∧ k ≤ d) (N : decide ok = false → z = 3 ∧ A = none ∧ k = 0 ∧ d = 0) : Told w ok xs A k z ∧ k ≤ d :=
  ⟨⟨fun o => ⟨(T (decide_eq_true o)).1, (T (decide_eq_true o)).2.1⟩, fun o => ⟨(N (decide_eq_false o)).1, (N (decide_eq_false o)).2.2.1⟩⟩, by
    by_cases o : ok
    · exact (T (decide_eq_true o)).2.2
    · have h := N (decide_eq_false o); omega⟩
/-! The reference. -/
theorem rRight_any (w : World) (H : MsgAt w cs m) (hf : m.Fit) :
    Calls Tryz.prog 57 #[.agg cs] w fun e w' => e = .returned (.bool (decide (okMsg m))) ∧ Ext w w' := by
  obtain ⟨gr, i, h0, h1, h2, s, h4, h5, g, l0, l1, l2, t, l4, l5, it, c0, c1, c2, q, c4, c5, ct, sg, tg, mb, rfl, a1, a2, a3, D, F, J, S, T, M⟩ := H
  have n1 := D.1; have n2 := S.1; have n3 := T.1; have n4 := M.1
  have E := Ext.refl w
  refine vc_enter1 73 Tryz.func57 rfl rfl rfl rfl ?_
  intro Q hret
  refine wc_seq ?_; intro K1 hK1
  refine wc_region ?_
  refine wl_ef (ef_box rfl rfl) rfl ?_
  rintro _ wB1 ⟨gB1, rfl, B1, hgB1, ex⟩
  have lB1 := B1.lt; have zB1 := ex.size
  replace E := E.ext ex
  refine wl_y (y_assign rfl) rfl ?_
  refine wl_nil ?_
  refine wq_then_norm (hK1 ?_)
  refine wc_seq ?_; intro K2 hK2
  refine wc_region ?_
  refine wl_y (y_fieldAddr (o := 0) (s := 1) (off := 0) (o' := 0) rfl Tryz.underlying55 rfl (by kernel_rfl) rfl rfl) rfl ?_
  refine wl_y (y_load1 rfl Tryz.underlying22 rfl (B1.get (i := 0) rfl)) rfl ?_
  refine wl_y (y_len_slice rfl Tryz.underlying22) rfl ?_
  refine wl_y (y_leq rfl rfl) rfl ?_
  refine wl_yask (y_move rfl) rfl (fun q0 => ?_) (fun q0 => ?_)
  · skip
    refine wl_gy 8 rfl rfl (y_fieldAddr (o := 2) (s := 1) (off := 0) (o' := 2) rfl Tryz.underlying55 rfl (by kernel_rfl) rfl rfl) rfl ?_
    refine wl_gy 8 rfl rfl (y_load1 rfl Tryz.underlying3 rfl (B1.get (i := 2) rfl)) rfl ?_
    refine wl_gy 8 rfl rfl (y_geq rfl rfl) rfl ?_
    refine wl_y (y_pickt rfl rfl) rfl ?_
    refine wl_yask (y_move rfl) rfl (fun q1 => ?_) (fun q1 => ?_)
    · skip
      refine wl_gy 13 rfl rfl (y_fieldAddr (o := 2) (s := 1) (off := 0) (o' := 2) rfl Tryz.underlying55 rfl (by kernel_rfl) rfl rfl) rfl ?_
      refine wl_gy 13 rfl rfl (y_load1 rfl Tryz.underlying3 rfl (B1.get (i := 2) rfl)) rfl ?_
      refine wl_gy 13 rfl rfl (y_leq rfl rfl) rfl ?_
      refine wl_y (y_pickt rfl rfl) rfl ?_
      refine wl_yask (y_move rfl) rfl (fun q2 => ?_) (fun q2 => ?_)
      · skip
        refine wl_gy 18 rfl rfl (y_fieldAddr (o := 29) (s := 1) (off := 0) (o' := 29) rfl Tryz.underlying55 rfl (by kernel_rfl) rfl rfl) rfl ?_
        refine wl_gy 18 rfl rfl (y_load1 rfl Tryz.underlying22 rfl (B1.get (i := 29) rfl)) rfl ?_
        refine wl_gy 18 rfl rfl (y_len_slice rfl Tryz.underlying22) rfl ?_
        refine wl_gy 18 rfl rfl (y_eql rfl rfl) rfl ?_
        refine wl_y (y_pickt rfl rfl) rfl ?_
        refine wl_yask (y_move rfl) rfl (fun q3 => ?_) (fun q3 => ?_)
        · skip
          refine wl_gy 24 rfl rfl (y_fieldAddr (o := 31) (s := 1) (off := 0) (o' := 31) rfl Tryz.underlying55 rfl (by kernel_rfl) rfl rfl) rfl ?_
          refine wl_gy 24 rfl rfl (y_load1 rfl Tryz.underlying22 rfl (B1.get (i := 31) rfl)) rfl ?_
          refine wl_gy 24 rfl rfl (y_len_slice rfl Tryz.underlying22) rfl ?_
          refine wl_gy 24 rfl rfl (y_eql rfl rfl) rfl ?_
          refine wl_y (y_pickt rfl rfl) rfl ?_
          refine wl_y (y_assign rfl) rfl ?_
          refine wl_nil ?_
          refine wq_then_norm (hK2 ?_)
          refine wc_seq ?_; intro K3 hK3
          refine wc_region ?_
          refine wl_y (y_move rfl) rfl ?_
          refine wl_yask (y_move rfl) rfl (fun q4 => ?_) (fun q4 => ?_)
          · skip
            refine wl_gy 31 rfl rfl (y_fieldAddr (o := 3) (s := 1) (off := 0) (o' := 3) rfl Tryz.underlying55 rfl (by kernel_rfl) rfl rfl) rfl ?_
            refine wl_gy 31 rfl rfl (y_load1 rfl Tryz.underlying5 rfl (B1.get (i := 3) rfl)) rfl ?_
            refine wl_gy 31 rfl rfl (y_eql rfl rfl) rfl ?_
            refine wl_gyask 31 rfl rfl (y_move rfl) rfl (fun k2 => ?_) (fun k2 => ?_)
            · skip
              refine wl_gy 35 rfl rfl (y_fieldAddr (o := 4) (s := 16) (off := 0) (o' := 4) rfl Tryz.underlying55 rfl (by kernel_rfl) rfl rfl) rfl ?_
              refine wl_gy 35 rfl rfl (y_loadx (o := 4) (s := 16) rfl Tryz.underlying32 rfl (by kernel_rfl) B1 rfl) rfl ?_
              refine wl_gcall 35 rfl rfl Tryz.func46 rfl rfl rfl (rProp_any _ (F.ext E) hf.2.1) rfl ?_
              rintro e w3 ⟨rfl, ex⟩
              refine ⟨_, rfl, ?_⟩
              replace E := E.ext ex
              replace B1 := B1.ext ex
              skip
              refine wl_gy 31 rfl rfl (y_pickt rfl rfl) rfl ?_
              refine wl_gyask 31 rfl rfl (y_move rfl) rfl (fun p1 => ?_) (fun p1 => ?_)
              · skip
                refine wl_gy 40 rfl rfl (y_fieldAddr (o := 20) (s := 9) (off := 0) (o' := 20) rfl Tryz.underlying55 rfl (by kernel_rfl) rfl rfl) rfl ?_
                refine wl_gy 40 rfl rfl (y_loadx (o := 20) (s := 9) rfl Tryz.underlying40 rfl (by kernel_rfl) B1 rfl) rfl ?_
                refine wl_gcall 40 rfl rfl Tryz.func107 rfl rfl rfl (rNoCommit20_any _ (J.ext E) hf.2.2.1) rfl ?_
                rintro e w4 ⟨rfl, ex⟩
                refine ⟨_, rfl, ?_⟩
                replace E := E.ext ex
                replace B1 := B1.ext ex
                skip
                refine wl_gy 31 rfl rfl (y_pickt rfl rfl) rfl ?_
                refine wl_gyask 31 rfl rfl (y_move rfl) rfl (fun p2 => ?_) (fun p2 => ?_)
                · skip
                  refine wl_gy 45 rfl rfl (y_fieldAddr (o := 30) (s := 1) (off := 0) (o' := 30) rfl Tryz.underlying55 rfl (by kernel_rfl) rfl rfl) rfl ?_
                  refine wl_gy 45 rfl rfl (y_load1 rfl Tryz.underlying22 rfl (B1.get (i := 30) rfl)) rfl ?_
                  refine wl_gy 45 rfl rfl (y_len_slice rfl Tryz.underlying22) rfl ?_
                  refine wl_gy 45 rfl rfl (y_eql rfl rfl) rfl ?_
                  refine wl_gy 31 rfl rfl (y_pickt rfl rfl) rfl ?_
                  refine wl_gyask 31 rfl rfl (y_move rfl) rfl (fun p3 => ?_) (fun p3 => ?_)
                  · skip
                    refine wl_gno 51 rfl rfl rfl rfl ?_
                    refine wl_gno 51 rfl rfl rfl rfl ?_
                    refine wl_gno 51 rfl rfl rfl rfl ?_
                    refine wl_gno 51 rfl rfl rfl rfl ?_
                    refine wl_gun 55 rfl rfl rfl ?_
                    refine wl_gun 55 rfl rfl rfl ?_
                    refine wl_gun 55 rfl rfl rfl ?_
                    refine wl_gno 51 rfl rfl rfl rfl ?_
                    refine wl_gno 51 rfl rfl rfl rfl ?_
                    refine wl_gun 60 rfl rfl rfl ?_
                    refine wl_gun 60 rfl rfl rfl ?_
                    refine wl_gun 60 rfl rfl rfl ?_
                    refine wl_gno 51 rfl rfl rfl rfl ?_
                    refine wl_gno 51 rfl rfl rfl rfl ?_
                    refine wl_gun 65 rfl rfl rfl ?_
                    refine wl_gun 65 rfl rfl rfl ?_
                    refine wl_gun 65 rfl rfl rfl ?_
                    refine wl_gun 65 rfl rfl rfl ?_
                    refine wl_gno 51 rfl rfl rfl rfl ?_
                    refine wl_gy 31 rfl rfl (y_pickt rfl rfl) rfl ?_
                    refine wl_y (y_pickt rfl rfl) rfl ?_
                    refine wl_y (y_assign rfl) rfl ?_
                    refine wl_nil ?_
                    refine wq_then_norm (hK3 ?_)
                    refine wc_ret ?_
                    refine hret rfl ?_
                    exact ⟨ret_yes ⟨by omega, by omega, by omega, by omega, .inl ⟨by omega, p1, p2, by omega⟩⟩, E⟩
                  · skip
                    refine wl_gy 51 rfl rfl (y_fieldAddr (o := 3) (s := 1) (off := 0) (o' := 3) rfl Tryz.underlying55 rfl (by kernel_rfl) rfl rfl) rfl ?_
                    refine wl_gy 51 rfl rfl (y_load1 rfl Tryz.underlying5 rfl (B1.get (i := 3) rfl)) rfl ?_
                    refine wl_gy 51 rfl rfl (y_eql rfl rfl) rfl ?_
                    refine wl_gyask 51 rfl rfl (y_move rfl) rfl (fun k3 => ?_) (fun k3 => ?_)
                    · skip
                      omega
                    · skip
                      refine wl_gno 55 rfl rfl rfl rfl ?_
                      refine wl_gno 55 rfl rfl rfl rfl ?_
                      refine wl_gno 55 rfl rfl rfl rfl ?_
                      refine wl_gy 51 rfl rfl (y_pickf rfl rfl) rfl ?_
                      refine wl_gy 51 rfl rfl (y_move rfl) rfl ?_
                      refine wl_gno 60 rfl rfl rfl rfl ?_
                      refine wl_gno 60 rfl rfl rfl rfl ?_
                      refine wl_gno 60 rfl rfl rfl rfl ?_
                      refine wl_gy 51 rfl rfl (y_pickf rfl rfl) rfl ?_
                      refine wl_gy 51 rfl rfl (y_move rfl) rfl ?_
                      refine wl_gno 65 rfl rfl rfl rfl ?_
                      refine wl_gno 65 rfl rfl rfl rfl ?_
                      refine wl_gno 65 rfl rfl rfl rfl ?_
                      refine wl_gno 65 rfl rfl rfl rfl ?_
                      refine wl_gy 51 rfl rfl (y_pickf rfl rfl) rfl ?_
                      refine wl_gy 31 rfl rfl (y_pickf rfl rfl) rfl ?_
                      refine wl_y (y_pickt rfl rfl) rfl ?_
                      refine wl_y (y_assign rfl) rfl ?_
                      refine wl_nil ?_
                      refine wq_then_norm (hK3 ?_)
                      refine wc_ret ?_
                      refine hret rfl ?_
                      exact ⟨ret_no fun h => h.2.2.2.2.elim (fun h => by have := h.2.2.2; omega) (fun h => by omega), E⟩
                · skip
                  refine wl_gno 45 rfl rfl rfl rfl ?_
                  refine wl_gno 45 rfl rfl rfl rfl ?_
                  refine wl_gno 45 rfl rfl rfl rfl ?_
                  refine wl_gno 45 rfl rfl rfl rfl ?_
                  refine wl_gy 31 rfl rfl (y_pickf rfl rfl) rfl ?_
                  refine wl_gy 31 rfl rfl (y_move rfl) rfl ?_
                  refine wl_gy 51 rfl rfl (y_fieldAddr (o := 3) (s := 1) (off := 0) (o' := 3) rfl Tryz.underlying55 rfl (by kernel_rfl) rfl rfl) rfl ?_
                  refine wl_gy 51 rfl rfl (y_load1 rfl Tryz.underlying5 rfl (B1.get (i := 3) rfl)) rfl ?_
                  refine wl_gy 51 rfl rfl (y_eql rfl rfl) rfl ?_
                  refine wl_gyask 51 rfl rfl (y_move rfl) rfl (fun k3 => ?_) (fun k3 => ?_)
                  · skip
                    omega
                  · skip
                    refine wl_gno 55 rfl rfl rfl rfl ?_
                    refine wl_gno 55 rfl rfl rfl rfl ?_
                    refine wl_gno 55 rfl rfl rfl rfl ?_
                    refine wl_gy 51 rfl rfl (y_pickf rfl rfl) rfl ?_
                    refine wl_gy 51 rfl rfl (y_move rfl) rfl ?_
                    refine wl_gno 60 rfl rfl rfl rfl ?_
                    refine wl_gno 60 rfl rfl rfl rfl ?_
                    refine wl_gno 60 rfl rfl rfl rfl ?_
                    refine wl_gy 51 rfl rfl (y_pickf rfl rfl) rfl ?_
                    refine wl_gy 51 rfl rfl (y_move rfl) rfl ?_
                    refine wl_gno 65 rfl rfl rfl rfl ?_
                    refine wl_gno 65 rfl rfl rfl rfl ?_
                    refine wl_gno 65 rfl rfl rfl rfl ?_
                    refine wl_gno 65 rfl rfl rfl rfl ?_
                    refine wl_gy 51 rfl rfl (y_pickf rfl rfl) rfl ?_
                    refine wl_gy 31 rfl rfl (y_pickf rfl rfl) rfl ?_
                    refine wl_y (y_pickt rfl rfl) rfl ?_
                    refine wl_y (y_assign rfl) rfl ?_
                    refine wl_nil ?_
                    refine wq_then_norm (hK3 ?_)
                    refine wc_ret ?_
                    refine hret rfl ?_
                    exact ⟨ret_no fun h => h.2.2.2.2.elim (fun h => p2 h.2.2.1) (fun h => by omega), E⟩
              · skip
                refine wl_gno 40 rfl rfl rfl rfl ?_
                refine wl_gno 40 rfl rfl rfl rfl ?_
                refine wl_gno 40 rfl rfl rfl rfl ?_
                refine wl_gy 31 rfl rfl (y_pickf rfl rfl) rfl ?_
                refine wl_gy 31 rfl rfl (y_move rfl) rfl ?_
                refine wl_gno 45 rfl rfl rfl rfl ?_
                refine wl_gno 45 rfl rfl rfl rfl ?_
                refine wl_gno 45 rfl rfl rfl rfl ?_
                refine wl_gno 45 rfl rfl rfl rfl ?_
                refine wl_gy 31 rfl rfl (y_pickf rfl rfl) rfl ?_
                refine wl_gy 31 rfl rfl (y_move rfl) rfl ?_
                refine wl_gy 51 rfl rfl (y_fieldAddr (o := 3) (s := 1) (off := 0) (o' := 3) rfl Tryz.underlying55 rfl (by kernel_rfl) rfl rfl) rfl ?_
                refine wl_gy 51 rfl rfl (y_load1 rfl Tryz.underlying5 rfl (B1.get (i := 3) rfl)) rfl ?_
                refine wl_gy 51 rfl rfl (y_eql rfl rfl) rfl ?_
                refine wl_gyask 51 rfl rfl (y_move rfl) rfl (fun k3 => ?_) (fun k3 => ?_)
                · skip
                  omega
                · skip
                  refine wl_gno 55 rfl rfl rfl rfl ?_
                  refine wl_gno 55 rfl rfl rfl rfl ?_
                  refine wl_gno 55 rfl rfl rfl rfl ?_
                  refine wl_gy 51 rfl rfl (y_pickf rfl rfl) rfl ?_
                  refine wl_gy 51 rfl rfl (y_move rfl) rfl ?_
                  refine wl_gno 60 rfl rfl rfl rfl ?_
                  refine wl_gno 60 rfl rfl rfl rfl ?_
                  refine wl_gno 60 rfl rfl rfl rfl ?_
                  refine wl_gy 51 rfl rfl (y_pickf rfl rfl) rfl ?_
                  refine wl_gy 51 rfl rfl (y_move rfl) rfl ?_
                  refine wl_gno 65 rfl rfl rfl rfl ?_
                  refine wl_gno 65 rfl rfl rfl rfl ?_
                  refine wl_gno 65 rfl rfl rfl rfl ?_
                  refine wl_gno 65 rfl rfl rfl rfl ?_
                  refine wl_gy 51 rfl rfl (y_pickf rfl rfl) rfl ?_
                  refine wl_gy 31 rfl rfl (y_pickf rfl rfl) rfl ?_
                  refine wl_y (y_pickt rfl rfl) rfl ?_
                  refine wl_y (y_assign rfl) rfl ?_
                  refine wl_nil ?_
                  refine wq_then_norm (hK3 ?_)
                  refine wc_ret ?_
                  refine hret rfl ?_
                  exact ⟨ret_no fun h => h.2.2.2.2.elim (fun h => p1 h.2.1) (fun h => by omega), E⟩
            · skip
              refine wl_gno 35 rfl rfl rfl rfl ?_
              refine wl_gno 35 rfl rfl rfl rfl ?_
              refine wl_gno 35 rfl rfl rfl rfl ?_
              refine wl_gy 31 rfl rfl (y_pickf rfl rfl) rfl ?_
              refine wl_gy 31 rfl rfl (y_move rfl) rfl ?_
              refine wl_gno 40 rfl rfl rfl rfl ?_
              refine wl_gno 40 rfl rfl rfl rfl ?_
              refine wl_gno 40 rfl rfl rfl rfl ?_
              refine wl_gy 31 rfl rfl (y_pickf rfl rfl) rfl ?_
              refine wl_gy 31 rfl rfl (y_move rfl) rfl ?_
              refine wl_gno 45 rfl rfl rfl rfl ?_
              refine wl_gno 45 rfl rfl rfl rfl ?_
              refine wl_gno 45 rfl rfl rfl rfl ?_
              refine wl_gno 45 rfl rfl rfl rfl ?_
              refine wl_gy 31 rfl rfl (y_pickf rfl rfl) rfl ?_
              refine wl_gy 31 rfl rfl (y_move rfl) rfl ?_
              refine wl_gy 51 rfl rfl (y_fieldAddr (o := 3) (s := 1) (off := 0) (o' := 3) rfl Tryz.underlying55 rfl (by kernel_rfl) rfl rfl) rfl ?_
              refine wl_gy 51 rfl rfl (y_load1 rfl Tryz.underlying5 rfl (B1.get (i := 3) rfl)) rfl ?_
              refine wl_gy 51 rfl rfl (y_eql rfl rfl) rfl ?_
              refine wl_gyask 51 rfl rfl (y_move rfl) rfl (fun k3 => ?_) (fun k3 => ?_)
              · skip
                refine wl_gy 55 rfl rfl (y_fieldAddr (o := 4) (s := 16) (off := 0) (o' := 4) rfl Tryz.underlying55 rfl (by kernel_rfl) rfl rfl) rfl ?_
                refine wl_gy 55 rfl rfl (y_loadx (o := 4) (s := 16) rfl Tryz.underlying32 rfl (by kernel_rfl) B1 rfl) rfl ?_
                refine wl_gcall 55 rfl rfl Tryz.func102 rfl rfl rfl (rNoProp_any _ (F.ext E) hf.2.1) rfl ?_
                rintro e w5 ⟨rfl, ex⟩
                refine ⟨_, rfl, ?_⟩
                replace E := E.ext ex
                replace B1 := B1.ext ex
                skip
                refine wl_gy 51 rfl rfl (y_pickt rfl rfl) rfl ?_
                refine wl_gyask 51 rfl rfl (y_move rfl) rfl (fun s1 => ?_) (fun s1 => ?_)
                · skip
                  refine wl_gy 60 rfl rfl (y_fieldAddr (o := 20) (s := 9) (off := 0) (o' := 20) rfl Tryz.underlying55 rfl (by kernel_rfl) rfl rfl) rfl ?_
                  refine wl_gy 60 rfl rfl (y_loadx (o := 20) (s := 9) rfl Tryz.underlying40 rfl (by kernel_rfl) B1 rfl) rfl ?_
                  refine wl_gcall 60 rfl rfl Tryz.func48 rfl rfl rfl (rCommit20_any _ (J.ext E) hf.2.2.1) rfl ?_
                  rintro e w6 ⟨rfl, ex⟩
                  refine ⟨_, rfl, ?_⟩
                  replace E := E.ext ex
                  replace B1 := B1.ext ex
                  skip
                  refine wl_gy 51 rfl rfl (y_pickt rfl rfl) rfl ?_
                  refine wl_gyask 51 rfl rfl (y_move rfl) rfl (fun s2 => ?_) (fun s2 => ?_)
                  · skip
                    refine wl_gy 65 rfl rfl (y_fieldAddr (o := 30) (s := 1) (off := 0) (o' := 30) rfl Tryz.underlying55 rfl (by kernel_rfl) rfl rfl) rfl ?_
                    refine wl_gy 65 rfl rfl (y_load1 rfl Tryz.underlying22 rfl (B1.get (i := 30) rfl)) rfl ?_
                    refine wl_gy 65 rfl rfl (y_len_slice rfl Tryz.underlying22) rfl ?_
                    refine wl_gy 65 rfl rfl (y_eql rfl rfl) rfl ?_
                    refine wl_gy 51 rfl rfl (y_pickt rfl rfl) rfl ?_
                    refine wl_gy 31 rfl rfl (y_pickf rfl rfl) rfl ?_
                    refine wl_y (y_pickt rfl rfl) rfl ?_
                    refine wl_y (y_assign rfl) rfl ?_
                    refine wl_nil ?_
                    refine wq_then_norm (hK3 ?_)
                    refine wc_ret ?_
                    refine hret rfl ?_
                    exact ⟨ret_bool ⟨fun h => ⟨by omega, by omega, by omega, by omega, .inr ⟨by omega, s1, s2, by omega⟩⟩, fun h => h.2.2.2.2.elim (fun h => by omega) (fun h => by have := h.2.2.2; omega)⟩, E⟩
                  · skip
                    refine wl_gno 65 rfl rfl rfl rfl ?_
                    refine wl_gno 65 rfl rfl rfl rfl ?_
                    refine wl_gno 65 rfl rfl rfl rfl ?_
                    refine wl_gno 65 rfl rfl rfl rfl ?_
                    refine wl_gy 51 rfl rfl (y_pickf rfl rfl) rfl ?_
                    refine wl_gy 31 rfl rfl (y_pickf rfl rfl) rfl ?_
                    refine wl_y (y_pickt rfl rfl) rfl ?_
                    refine wl_y (y_assign rfl) rfl ?_
                    refine wl_nil ?_
                    refine wq_then_norm (hK3 ?_)
                    refine wc_ret ?_
                    refine hret rfl ?_
                    exact ⟨ret_no fun h => h.2.2.2.2.elim (fun h => by omega) (fun h => s2 h.2.2.1), E⟩
                · skip
                  refine wl_gno 60 rfl rfl rfl rfl ?_
                  refine wl_gno 60 rfl rfl rfl rfl ?_
                  refine wl_gno 60 rfl rfl rfl rfl ?_
                  refine wl_gy 51 rfl rfl (y_pickf rfl rfl) rfl ?_
                  refine wl_gy 51 rfl rfl (y_move rfl) rfl ?_
                  refine wl_gno 65 rfl rfl rfl rfl ?_
                  refine wl_gno 65 rfl rfl rfl rfl ?_
                  refine wl_gno 65 rfl rfl rfl rfl ?_
                  refine wl_gno 65 rfl rfl rfl rfl ?_
                  refine wl_gy 51 rfl rfl (y_pickf rfl rfl) rfl ?_
                  refine wl_gy 31 rfl rfl (y_pickf rfl rfl) rfl ?_
                  refine wl_y (y_pickt rfl rfl) rfl ?_
                  refine wl_y (y_assign rfl) rfl ?_
                  refine wl_nil ?_
                  refine wq_then_norm (hK3 ?_)
                  refine wc_ret ?_
                  refine hret rfl ?_
                  exact ⟨ret_no fun h => h.2.2.2.2.elim (fun h => by omega) (fun h => s1 h.2.1), E⟩
              · skip
                refine wl_gno 55 rfl rfl rfl rfl ?_
                refine wl_gno 55 rfl rfl rfl rfl ?_
                refine wl_gno 55 rfl rfl rfl rfl ?_
                refine wl_gy 51 rfl rfl (y_pickf rfl rfl) rfl ?_
                refine wl_gy 51 rfl rfl (y_move rfl) rfl ?_
                refine wl_gno 60 rfl rfl rfl rfl ?_
                refine wl_gno 60 rfl rfl rfl rfl ?_
                refine wl_gno 60 rfl rfl rfl rfl ?_
                refine wl_gy 51 rfl rfl (y_pickf rfl rfl) rfl ?_
                refine wl_gy 51 rfl rfl (y_move rfl) rfl ?_
                refine wl_gno 65 rfl rfl rfl rfl ?_
                refine wl_gno 65 rfl rfl rfl rfl ?_
                refine wl_gno 65 rfl rfl rfl rfl ?_
                refine wl_gno 65 rfl rfl rfl rfl ?_
                refine wl_gy 51 rfl rfl (y_pickf rfl rfl) rfl ?_
                refine wl_gy 31 rfl rfl (y_pickf rfl rfl) rfl ?_
                refine wl_y (y_pickt rfl rfl) rfl ?_
                refine wl_y (y_assign rfl) rfl ?_
                refine wl_nil ?_
                refine wq_then_norm (hK3 ?_)
                refine wc_ret ?_
                refine hret rfl ?_
                exact ⟨ret_no fun h => h.2.2.2.2.elim (fun h => by omega) (fun h => by omega), E⟩
          · skip
            refine wl_gno 31 rfl rfl rfl rfl ?_
            refine wl_gno 31 rfl rfl rfl rfl ?_
            refine wl_gno 31 rfl rfl rfl rfl ?_
            refine wl_gno 31 rfl rfl rfl rfl ?_
            refine wl_gun 35 rfl rfl rfl ?_
            refine wl_gun 35 rfl rfl rfl ?_
            refine wl_gun 35 rfl rfl rfl ?_
            refine wl_gno 31 rfl rfl rfl rfl ?_
            refine wl_gno 31 rfl rfl rfl rfl ?_
            refine wl_gun 40 rfl rfl rfl ?_
            refine wl_gun 40 rfl rfl rfl ?_
            refine wl_gun 40 rfl rfl rfl ?_
            refine wl_gno 31 rfl rfl rfl rfl ?_
            refine wl_gno 31 rfl rfl rfl rfl ?_
            refine wl_gun 45 rfl rfl rfl ?_
            refine wl_gun 45 rfl rfl rfl ?_
            refine wl_gun 45 rfl rfl rfl ?_
            refine wl_gun 45 rfl rfl rfl ?_
            refine wl_gno 31 rfl rfl rfl rfl ?_
            refine wl_gno 31 rfl rfl rfl rfl ?_
            refine wl_gun 51 rfl rfl rfl ?_
            refine wl_gun 51 rfl rfl rfl ?_
            refine wl_gun 51 rfl rfl rfl ?_
            refine wl_gun 51 rfl rfl rfl ?_
            refine wl_gun 55 rfl rfl rfl ?_
            refine wl_gun 55 rfl rfl rfl ?_
            refine wl_gun 55 rfl rfl rfl ?_
            refine wl_gun 51 rfl rfl rfl ?_
            refine wl_gun 51 rfl rfl rfl ?_
            refine wl_gun 60 rfl rfl rfl ?_
            refine wl_gun 60 rfl rfl rfl ?_
            refine wl_gun 60 rfl rfl rfl ?_
            refine wl_gun 51 rfl rfl rfl ?_
            refine wl_gun 51 rfl rfl rfl ?_
            refine wl_gun 65 rfl rfl rfl ?_
            refine wl_gun 65 rfl rfl rfl ?_
            refine wl_gun 65 rfl rfl rfl ?_
            refine wl_gun 65 rfl rfl rfl ?_
            refine wl_gun 51 rfl rfl rfl ?_
            refine wl_gno 31 rfl rfl rfl rfl ?_
            refine wl_y (y_pickf rfl rfl) rfl ?_
            refine wl_y (y_assign rfl) rfl ?_
            refine wl_nil ?_
            refine wq_then_norm (hK3 ?_)
            refine wc_ret ?_
            refine hret rfl ?_
            exact ⟨ret_no fun h => by have := h.2.2.2.1; omega, E⟩
        · skip
          refine wl_gno 24 rfl rfl rfl rfl ?_
          refine wl_gno 24 rfl rfl rfl rfl ?_
          refine wl_gno 24 rfl rfl rfl rfl ?_
          refine wl_gno 24 rfl rfl rfl rfl ?_
          refine wl_y (y_pickf rfl rfl) rfl ?_
          refine wl_y (y_assign rfl) rfl ?_
          refine wl_nil ?_
          refine wq_then_norm (hK2 ?_)
          refine wc_seq ?_; intro K4 hK4
          refine wc_region ?_
          refine wl_y (y_move rfl) rfl ?_
          refine wl_y (y_move rfl) rfl ?_
          refine wl_gno 31 rfl rfl rfl rfl ?_
          refine wl_gno 31 rfl rfl rfl rfl ?_
          refine wl_gno 31 rfl rfl rfl rfl ?_
          refine wl_gno 31 rfl rfl rfl rfl ?_
          refine wl_gun 35 rfl rfl rfl ?_
          refine wl_gun 35 rfl rfl rfl ?_
          refine wl_gun 35 rfl rfl rfl ?_
          refine wl_gno 31 rfl rfl rfl rfl ?_
          refine wl_gno 31 rfl rfl rfl rfl ?_
          refine wl_gun 40 rfl rfl rfl ?_
          refine wl_gun 40 rfl rfl rfl ?_
          refine wl_gun 40 rfl rfl rfl ?_
          refine wl_gno 31 rfl rfl rfl rfl ?_
          refine wl_gno 31 rfl rfl rfl rfl ?_
          refine wl_gun 45 rfl rfl rfl ?_
          refine wl_gun 45 rfl rfl rfl ?_
          refine wl_gun 45 rfl rfl rfl ?_
          refine wl_gun 45 rfl rfl rfl ?_
          refine wl_gno 31 rfl rfl rfl rfl ?_
          refine wl_gno 31 rfl rfl rfl rfl ?_
          refine wl_gun 51 rfl rfl rfl ?_
          refine wl_gun 51 rfl rfl rfl ?_
          refine wl_gun 51 rfl rfl rfl ?_
          refine wl_gun 51 rfl rfl rfl ?_
          refine wl_gun 55 rfl rfl rfl ?_
          refine wl_gun 55 rfl rfl rfl ?_
          refine wl_gun 55 rfl rfl rfl ?_
          refine wl_gun 51 rfl rfl rfl ?_
          refine wl_gun 51 rfl rfl rfl ?_
          refine wl_gun 60 rfl rfl rfl ?_
          refine wl_gun 60 rfl rfl rfl ?_
          refine wl_gun 60 rfl rfl rfl ?_
          refine wl_gun 51 rfl rfl rfl ?_
          refine wl_gun 51 rfl rfl rfl ?_
          refine wl_gun 65 rfl rfl rfl ?_
          refine wl_gun 65 rfl rfl rfl ?_
          refine wl_gun 65 rfl rfl rfl ?_
          refine wl_gun 65 rfl rfl rfl ?_
          refine wl_gun 51 rfl rfl rfl ?_
          refine wl_gno 31 rfl rfl rfl rfl ?_
          refine wl_y (y_pickf rfl rfl) rfl ?_
          refine wl_y (y_assign rfl) rfl ?_
          refine wl_nil ?_
          refine wq_then_norm (hK4 ?_)
          refine wc_ret ?_
          refine hret rfl ?_
          exact ⟨ret_no fun h => by have := h.2.2.1; omega, E⟩
      · skip
        refine wl_gno 18 rfl rfl rfl rfl ?_
        refine wl_gno 18 rfl rfl rfl rfl ?_
        refine wl_gno 18 rfl rfl rfl rfl ?_
        refine wl_gno 18 rfl rfl rfl rfl ?_
        refine wl_y (y_pickf rfl rfl) rfl ?_
        refine wl_y (y_move rfl) rfl ?_
        refine wl_gno 24 rfl rfl rfl rfl ?_
        refine wl_gno 24 rfl rfl rfl rfl ?_
        refine wl_gno 24 rfl rfl rfl rfl ?_
        refine wl_gno 24 rfl rfl rfl rfl ?_
        refine wl_y (y_pickf rfl rfl) rfl ?_
        refine wl_y (y_assign rfl) rfl ?_
        refine wl_nil ?_
        refine wq_then_norm (hK2 ?_)
        refine wc_seq ?_; intro K5 hK5
        refine wc_region ?_
        refine wl_y (y_move rfl) rfl ?_
        refine wl_y (y_move rfl) rfl ?_
        refine wl_gno 31 rfl rfl rfl rfl ?_
        refine wl_gno 31 rfl rfl rfl rfl ?_
        refine wl_gno 31 rfl rfl rfl rfl ?_
        refine wl_gno 31 rfl rfl rfl rfl ?_
        refine wl_gun 35 rfl rfl rfl ?_
        refine wl_gun 35 rfl rfl rfl ?_
        refine wl_gun 35 rfl rfl rfl ?_
        refine wl_gno 31 rfl rfl rfl rfl ?_
        refine wl_gno 31 rfl rfl rfl rfl ?_
        refine wl_gun 40 rfl rfl rfl ?_
        refine wl_gun 40 rfl rfl rfl ?_
        refine wl_gun 40 rfl rfl rfl ?_
        refine wl_gno 31 rfl rfl rfl rfl ?_
        refine wl_gno 31 rfl rfl rfl rfl ?_
        refine wl_gun 45 rfl rfl rfl ?_
        refine wl_gun 45 rfl rfl rfl ?_
        refine wl_gun 45 rfl rfl rfl ?_
        refine wl_gun 45 rfl rfl rfl ?_
        refine wl_gno 31 rfl rfl rfl rfl ?_
        refine wl_gno 31 rfl rfl rfl rfl ?_
        refine wl_gun 51 rfl rfl rfl ?_
        refine wl_gun 51 rfl rfl rfl ?_
        refine wl_gun 51 rfl rfl rfl ?_
        refine wl_gun 51 rfl rfl rfl ?_
        refine wl_gun 55 rfl rfl rfl ?_
        refine wl_gun 55 rfl rfl rfl ?_
        refine wl_gun 55 rfl rfl rfl ?_
        refine wl_gun 51 rfl rfl rfl ?_
        refine wl_gun 51 rfl rfl rfl ?_
        refine wl_gun 60 rfl rfl rfl ?_
        refine wl_gun 60 rfl rfl rfl ?_
        refine wl_gun 60 rfl rfl rfl ?_
        refine wl_gun 51 rfl rfl rfl ?_
        refine wl_gun 51 rfl rfl rfl ?_
        refine wl_gun 65 rfl rfl rfl ?_
        refine wl_gun 65 rfl rfl rfl ?_
        refine wl_gun 65 rfl rfl rfl ?_
        refine wl_gun 65 rfl rfl rfl ?_
        refine wl_gun 51 rfl rfl rfl ?_
        refine wl_gno 31 rfl rfl rfl rfl ?_
        refine wl_y (y_pickf rfl rfl) rfl ?_
        refine wl_y (y_assign rfl) rfl ?_
        refine wl_nil ?_
        refine wq_then_norm (hK5 ?_)
        refine wc_ret ?_
        refine hret rfl ?_
        exact ⟨ret_no fun h => by have := h.2.1; omega, E⟩
    · skip
      refine wl_gno 13 rfl rfl rfl rfl ?_
      refine wl_gno 13 rfl rfl rfl rfl ?_
      refine wl_gno 13 rfl rfl rfl rfl ?_
      refine wl_y (y_pickf rfl rfl) rfl ?_
      refine wl_y (y_move rfl) rfl ?_
      refine wl_gno 18 rfl rfl rfl rfl ?_
      refine wl_gno 18 rfl rfl rfl rfl ?_
      refine wl_gno 18 rfl rfl rfl rfl ?_
      refine wl_gno 18 rfl rfl rfl rfl ?_
      refine wl_y (y_pickf rfl rfl) rfl ?_
      refine wl_y (y_move rfl) rfl ?_
      refine wl_gno 24 rfl rfl rfl rfl ?_
      refine wl_gno 24 rfl rfl rfl rfl ?_
      refine wl_gno 24 rfl rfl rfl rfl ?_
      refine wl_gno 24 rfl rfl rfl rfl ?_
      refine wl_y (y_pickf rfl rfl) rfl ?_
      refine wl_y (y_assign rfl) rfl ?_
      refine wl_nil ?_
      refine wq_then_norm (hK2 ?_)
      refine wc_seq ?_; intro K6 hK6
      refine wc_region ?_
      refine wl_y (y_move rfl) rfl ?_
      refine wl_y (y_move rfl) rfl ?_
      refine wl_gno 31 rfl rfl rfl rfl ?_
      refine wl_gno 31 rfl rfl rfl rfl ?_
      refine wl_gno 31 rfl rfl rfl rfl ?_
      refine wl_gno 31 rfl rfl rfl rfl ?_
      refine wl_gun 35 rfl rfl rfl ?_
      refine wl_gun 35 rfl rfl rfl ?_
      refine wl_gun 35 rfl rfl rfl ?_
      refine wl_gno 31 rfl rfl rfl rfl ?_
      refine wl_gno 31 rfl rfl rfl rfl ?_
      refine wl_gun 40 rfl rfl rfl ?_
      refine wl_gun 40 rfl rfl rfl ?_
      refine wl_gun 40 rfl rfl rfl ?_
      refine wl_gno 31 rfl rfl rfl rfl ?_
      refine wl_gno 31 rfl rfl rfl rfl ?_
      refine wl_gun 45 rfl rfl rfl ?_
      refine wl_gun 45 rfl rfl rfl ?_
      refine wl_gun 45 rfl rfl rfl ?_
      refine wl_gun 45 rfl rfl rfl ?_
      refine wl_gno 31 rfl rfl rfl rfl ?_
      refine wl_gno 31 rfl rfl rfl rfl ?_
      refine wl_gun 51 rfl rfl rfl ?_
      refine wl_gun 51 rfl rfl rfl ?_
      refine wl_gun 51 rfl rfl rfl ?_
      refine wl_gun 51 rfl rfl rfl ?_
      refine wl_gun 55 rfl rfl rfl ?_
      refine wl_gun 55 rfl rfl rfl ?_
      refine wl_gun 55 rfl rfl rfl ?_
      refine wl_gun 51 rfl rfl rfl ?_
      refine wl_gun 51 rfl rfl rfl ?_
      refine wl_gun 60 rfl rfl rfl ?_
      refine wl_gun 60 rfl rfl rfl ?_
      refine wl_gun 60 rfl rfl rfl ?_
      refine wl_gun 51 rfl rfl rfl ?_
      refine wl_gun 51 rfl rfl rfl ?_
      refine wl_gun 65 rfl rfl rfl ?_
      refine wl_gun 65 rfl rfl rfl ?_
      refine wl_gun 65 rfl rfl rfl ?_
      refine wl_gun 65 rfl rfl rfl ?_
      refine wl_gun 51 rfl rfl rfl ?_
      refine wl_gno 31 rfl rfl rfl rfl ?_
      refine wl_y (y_pickf rfl rfl) rfl ?_
      refine wl_y (y_assign rfl) rfl ?_
      refine wl_nil ?_
      refine wq_then_norm (hK6 ?_)
      refine wc_ret ?_
      refine hret rfl ?_
      exact ⟨ret_no fun h => by have := h.2.1; omega, E⟩
  · skip
    refine wl_gno 8 rfl rfl rfl rfl ?_
    refine wl_gno 8 rfl rfl rfl rfl ?_
    refine wl_gno 8 rfl rfl rfl rfl ?_
    refine wl_y (y_pickf rfl rfl) rfl ?_
    refine wl_y (y_move rfl) rfl ?_
    refine wl_gno 13 rfl rfl rfl rfl ?_
    refine wl_gno 13 rfl rfl rfl rfl ?_
    refine wl_gno 13 rfl rfl rfl rfl ?_
    refine wl_y (y_pickf rfl rfl) rfl ?_
    refine wl_y (y_move rfl) rfl ?_
    refine wl_gno 18 rfl rfl rfl rfl ?_
    refine wl_gno 18 rfl rfl rfl rfl ?_
    refine wl_gno 18 rfl rfl rfl rfl ?_
    refine wl_gno 18 rfl rfl rfl rfl ?_
    refine wl_y (y_pickf rfl rfl) rfl ?_
    refine wl_y (y_move rfl) rfl ?_
    refine wl_gno 24 rfl rfl rfl rfl ?_
    refine wl_gno 24 rfl rfl rfl rfl ?_
    refine wl_gno 24 rfl rfl rfl rfl ?_
    refine wl_gno 24 rfl rfl rfl rfl ?_
    refine wl_y (y_pickf rfl rfl) rfl ?_
    refine wl_y (y_assign rfl) rfl ?_
    refine wl_nil ?_
    refine wq_then_norm (hK2 ?_)
    refine wc_seq ?_; intro K7 hK7
    refine wc_region ?_
    refine wl_y (y_move rfl) rfl ?_
    refine wl_y (y_move rfl) rfl ?_
    refine wl_gno 31 rfl rfl rfl rfl ?_
    refine wl_gno 31 rfl rfl rfl rfl ?_
    refine wl_gno 31 rfl rfl rfl rfl ?_
    refine wl_gno 31 rfl rfl rfl rfl ?_
    refine wl_gun 35 rfl rfl rfl ?_
    refine wl_gun 35 rfl rfl rfl ?_
    refine wl_gun 35 rfl rfl rfl ?_
    refine wl_gno 31 rfl rfl rfl rfl ?_
    refine wl_gno 31 rfl rfl rfl rfl ?_
    refine wl_gun 40 rfl rfl rfl ?_
    refine wl_gun 40 rfl rfl rfl ?_
    refine wl_gun 40 rfl rfl rfl ?_
    refine wl_gno 31 rfl rfl rfl rfl ?_
    refine wl_gno 31 rfl rfl rfl rfl ?_
    refine wl_gun 45 rfl rfl rfl ?_
    refine wl_gun 45 rfl rfl rfl ?_
    refine wl_gun 45 rfl rfl rfl ?_
    refine wl_gun 45 rfl rfl rfl ?_
    refine wl_gno 31 rfl rfl rfl rfl ?_
    refine wl_gno 31 rfl rfl rfl rfl ?_
    refine wl_gun 51 rfl rfl rfl ?_
    refine wl_gun 51 rfl rfl rfl ?_
    refine wl_gun 51 rfl rfl rfl ?_
    refine wl_gun 51 rfl rfl rfl ?_
    refine wl_gun 55 rfl rfl rfl ?_
    refine wl_gun 55 rfl rfl rfl ?_
    refine wl_gun 55 rfl rfl rfl ?_
    refine wl_gun 51 rfl rfl rfl ?_
    refine wl_gun 51 rfl rfl rfl ?_
    refine wl_gun 60 rfl rfl rfl ?_
    refine wl_gun 60 rfl rfl rfl ?_
    refine wl_gun 60 rfl rfl rfl ?_
    refine wl_gun 51 rfl rfl rfl ?_
    refine wl_gun 51 rfl rfl rfl ?_
    refine wl_gun 65 rfl rfl rfl ?_
    refine wl_gun 65 rfl rfl rfl ?_
    refine wl_gun 65 rfl rfl rfl ?_
    refine wl_gun 65 rfl rfl rfl ?_
    refine wl_gun 51 rfl rfl rfl ?_
    refine wl_gno 31 rfl rfl rfl rfl ?_
    refine wl_y (y_pickf rfl rfl) rfl ?_
    refine wl_y (y_assign rfl) rfl ?_
    refine wl_nil ?_
    refine wq_then_norm (hK7 ?_)
    refine wc_ret ?_
    refine hret rfl ?_
    exact ⟨ret_no fun h => by have := h.1; omega, E⟩
end
end Go.Proofs.YtpgalbgonmclaaaGreat
