/- The bytes of messages: what the reference hands back; the law MsgBytes. -/
import Derived.Test.YtpgalbgonmclaaaMsN
namespace Go.Proofs.Ytpgalbgonmclaaa
open Go.RowKit
attribute [local irreducible] Y Ef WL WC WK WQ WM OpM WN WF OpN WG OpG
open Nd Wire
theorem contB_sm {m : Mess} (h : okMsg m) (hs : m.Small) : (contB m).length ≤ 250000 := by
  unfold contB
  rcases h.2.2.2.2 with ⟨h1, h2, _⟩ | ⟨h1, _, h2, _⟩
  · rw [if_pos h1]; have := propB_ok h2; omega
  · rw [if_neg (by omega), ← comB_eq h2]; exact comB_sm hs.2.2.1
theorem framB_sm {m : Mess} (h : okMsg m) (hs : m.Small) : (framB m).length ≤ 251000 := by
  have h1 := preB_ok h; have h2 := contB_sm h hs
  unfold framB
  simp only [List.length_append, List.length_singleton]
  omega
section
variable {cs ds : Array Value} {m : Mess} {c : Ctx}
set_option maxHeartbeats 2000000 in
theorem rFramed_any (w : World) (H : MsgAt w cs m) (hs : m.Small) (ok : okMsg m) :
    Calls Try.prog 98 #[.agg cs] w fun e w' => ∃ A' k c', e = .returned (.slice A' k c') ∧ Row w' w.heap.size 5 A' k c' ((framB m).map bv) ∧ Ext w w' := by
  have hf := hs.fit
  have hcl := contB_sm ok hs
  have hpl := preB_ok ok
  obtain ⟨gr, i, h0, h1, h2, s, h4, h5, g, l0, l1, l2, t, l4, l5, it, c0, c1, c2, q, c4, c5, ct, sg, tg, mb, rfl, a1, a2, a3, D, F, J, S, T, M⟩ := H
  have n1 := D.1
  obtain ⟨k1, k2, k3, k4, k5⟩ := ok
  have e64 : w64 m.frm = m.frm.toNat := by unfold w64; omega
  have E := Ext.refl w
  refine vc_enter1 33 Try.func98 rfl rfl rfl rfl ?_
  intro Q hret
  refine wc_seq ?_; intro K1 hK1
  refine wc_region ?_
  refine wl_ef (ef_box rfl rfl) rfl ?_
  rintro _ wB1 ⟨gB1, rfl, B1, hgB1, ex⟩
  have lB1 := B1.lt; have zB1 := ex.size
  replace E := E.ext ex
  refine wl_y (y_assign rfl) rfl ?_
  refine wl_nil ?_
  have X := Ext.refl wB1
  have B1o := B1
  refine wq_then_norm (hK1 ?_)
  refine wc_seq ?_; intro K2 hK2
  refine wc_join (fun L wj1 => ∃ (A : Option Addr) (n k : Nat), L = [(1, .pointer (some ⟨gB1, 0, none⟩)), (3, .slice A n k)] ∧ (Ext wB1 wj1 ∧ Row wj1 wB1.heap.size 5 A n k ((preB m ++ [UInt8.ofNat m.kind]).map bv))) ?_ ?_
  · skip
    skip
    refine wc_draw (by kernel_rfl) 17 rfl ?_; intro wd1 ex hd1
    replace B1 := B1.ext ex
    replace X := X.ext ex
    refine wm_y 0 rfl (by kernel_rfl) (y_fieldAddr (o := 0) (s := 1) (off := 0) (o' := 0) rfl Try.underlying48 rfl (by kernel_rfl) rfl rfl) rfl ?_
    refine wm_y 1 rfl (by kernel_rfl) (y_load1 rfl Try.underlying22 rfl (B1.get (i := 0) rfl)) rfl ?_
    refine wm_y 3 rfl (by kernel_rfl) (y_fieldAddr (o := 1) (s := 1) (off := 0) (o' := 1) rfl Try.underlying48 rfl (by kernel_rfl) rfl rfl) rfl ?_
    refine wm_y 4 rfl (by kernel_rfl) (y_load1 rfl Try.underlying46 rfl (B1.get (i := 1) rfl)) rfl ?_
    refine wm_y 8 rfl (by kernel_rfl) (y_fieldAddr (o := 2) (s := 1) (off := 0) (o' := 2) rfl Try.underlying48 rfl (by kernel_rfl) rfl rfl) rfl ?_
    refine wm_y 9 rfl (by kernel_rfl) (y_load1 rfl Try.underlying3 rfl (B1.get (i := 2) rfl)) rfl ?_
    refine wm_y 11 rfl (by kernel_rfl) (y_fieldAddr (o := 3) (s := 1) (off := 0) (o' := 3) rfl Try.underlying48 rfl (by kernel_rfl) rfl rfl) rfl ?_
    refine wm_y 12 rfl (by kernel_rfl) (Y.as (y_load1 rfl Try.underlying5 rfl (B1.get (i := 3) rfl)) (src_byte a2)) rfl ?_
    refine wm_three 2 6 13 (by kernel_rfl) ?_ ?_ ?_
    · skip
      refine om_call rfl Try.func82 rfl rfl rfl (vec20_any gr.A gr.n gr.c _ _ (Bs.ext D (E.ext X)) (by omega)) rfl ?_
      rintro e w2 ⟨A4, k4', c4', rfl, R4, hk4, ex⟩
      refine ⟨_, rfl, .inr ex, ?_⟩
      replace B1 := B1.ext ex
      replace X := X.ext ex
      have hl4 := lsz_le gr.n
      refine wm_three 5 6 13 (by kernel_rfl) ?_ ?_ ?_
      · skip
        refine om_call rfl Try.func97 rfl rfl rfl (refNum_any 8 m.epoch _ (by omega) a1) rfl ?_
        rintro e w3 ⟨A5, c5', rfl, R5, ex⟩
        refine ⟨_, rfl, .inr ex, ?_⟩
        replace B1 := B1.ext ex
        replace X := X.ext ex
        replace R4 := R4.ext ex
        skip
        refine wm_two 6 13 (by kernel_rfl) ?_ ?_
        · skip
          refine om_ef rfl (ef_lit (z := .int .u8 0) Try.underlying22 (by kernel_rfl) rfl rfl rfl rfl rfl) rfl ?_
          rintro _ w4 ⟨g4, rfl, B4, hg4, ex⟩
          refine ⟨.inr ex, ?_⟩
          replace B1 := B1.ext ex
          replace X := X.ext ex
          replace R4 := R4.ext ex
          replace R5 := R5.ext ex
          have H4 := bs_blk' (xs := [(1 : UInt8)]) (B4.congr (by rfl)) rfl
          refine wm_two 7 13 (by kernel_rfl) ?_ ?_
          · skip
            refine om_call rfl Try.func81 rfl rfl rfl (three20_any A4 A5 _ k4' c4' 8 c5' 1 1 _ _ _ _ R4.bs (by omega) R5.bs (by omega) H4 (by omega)) rfl ?_
            rintro e w5 ⟨A7, c7, rfl, R7, ex⟩
            refine ⟨_, rfl, .inr ex, ?_⟩
            replace B1 := B1.ext ex
            replace X := X.ext ex
            replace R4 := R4.ext ex
            replace R5 := R5.ext ex
            replace H4 := H4.ext ex
            skip
            refine wm_two 10 13 (by kernel_rfl) ?_ ?_
            · skip
              refine om_call rfl Try.func78 rfl rfl rfl (four20_any m.frm _) rfl ?_
              rintro e w6 ⟨A10, c10, rfl, R10, ex⟩
              refine ⟨_, rfl, .inr ex, ?_⟩
              replace B1 := B1.ext ex
              replace X := X.ext ex
              replace R7 := R7.ext ex
              rw [e64] at R10
              refine wm_one 13 (by kernel_rfl) ?_; refine om_ef rfl (ef_lit (z := .int .u8 0) Try.underlying22 (by kernel_rfl) rfl rfl rfl rfl rfl) rfl ?_
              rintro _ w7 ⟨g7, rfl, B7, hg7, ex⟩
              refine ⟨.inr ex, ?_⟩
              replace B1 := B1.ext ex
              replace X := X.ext ex
              replace R7 := R7.ext ex
              replace R10 := R10.ext ex
              have H7 := bs_blk' (xs := [UInt8.ofNat m.kind]) (B7.congr (by rfl)) rfl
              refine wm_one 14 (by kernel_rfl) ?_; refine om_call rfl Try.func76 rfl rfl rfl (join20_any A10 _ 4 c10 1 1 _ _ _ R10.bs (by omega) H7 (by omega)) rfl ?_
              rintro e w8 ⟨A14, c14, rfl, R14, ex⟩
              refine ⟨_, rfl, .inr ex, ?_⟩
              replace B1 := B1.ext ex
              replace X := X.ext ex
              replace R7 := R7.ext ex
              replace R10 := R10.ext ex
              replace H7 := H7.ext ex
              skip
              have hz15 := X.size
              refine wm_one 15 (by kernel_rfl) ?_; refine om_call rfl Try.func76 rfl rfl rfl (join20_any A7 A14 _ c7 _ c14 _ _ _ R7.bs (by omega) R14.bs (by omega)) rfl ?_
              rintro e w9 ⟨A15, c15, rfl, R15, ex⟩
              refine ⟨_, rfl, .inr ex, ?_⟩
              replace B1 := B1.ext ex
              replace X := X.ext ex
              replace R7 := R7.ext ex
              replace R14 := R14.ext ex
              replace R15 := R15.lower hz15
              refine wm_y 16 rfl (by kernel_rfl) (y_assign rfl) rfl ?_
              refine wm_done (by kernel_rfl) ?_
              refine wq_nop ?_
              exact wq_join _ ⟨A15, _, c15, rfl, X, R15.congr rfl (by unfold preB; simp)⟩ ⟨rfl, rfl, trivial⟩
            · skip
              refine om_ef rfl (ef_lit (z := .int .u8 0) Try.underlying22 (by kernel_rfl) rfl rfl rfl rfl rfl) rfl ?_
              rintro _ w7 ⟨g7, rfl, B7, hg7, ex⟩
              refine ⟨.inr ex, ?_⟩
              replace B1 := B1.ext ex
              replace X := X.ext ex
              replace R7 := R7.ext ex
              have H7 := bs_blk' (xs := [UInt8.ofNat m.kind]) (B7.congr (by rfl)) rfl
              refine wm_one 10 (by kernel_rfl) ?_; refine om_call rfl Try.func78 rfl rfl rfl (four20_any m.frm _) rfl ?_
              rintro e w6 ⟨A10, c10, rfl, R10, ex⟩
              refine ⟨_, rfl, .inr ex, ?_⟩
              replace B1 := B1.ext ex
              replace X := X.ext ex
              replace R7 := R7.ext ex
              replace H7 := H7.ext ex
              rw [e64] at R10
              refine wm_one 14 (by kernel_rfl) ?_; refine om_call rfl Try.func76 rfl rfl rfl (join20_any A10 _ 4 c10 1 1 _ _ _ R10.bs (by omega) H7 (by omega)) rfl ?_
              rintro e w8 ⟨A14, c14, rfl, R14, ex⟩
              refine ⟨_, rfl, .inr ex, ?_⟩
              replace B1 := B1.ext ex
              replace X := X.ext ex
              replace R7 := R7.ext ex
              replace H7 := H7.ext ex
              replace R10 := R10.ext ex
              skip
              have hz15 := X.size
              refine wm_one 15 (by kernel_rfl) ?_; refine om_call rfl Try.func76 rfl rfl rfl (join20_any A7 A14 _ c7 _ c14 _ _ _ R7.bs (by omega) R14.bs (by omega)) rfl ?_
              rintro e w9 ⟨A15, c15, rfl, R15, ex⟩
              refine ⟨_, rfl, .inr ex, ?_⟩
              replace B1 := B1.ext ex
              replace X := X.ext ex
              replace R7 := R7.ext ex
              replace R14 := R14.ext ex
              replace R15 := R15.lower hz15
              refine wm_y 16 rfl (by kernel_rfl) (y_assign rfl) rfl ?_
              refine wm_done (by kernel_rfl) ?_
              refine wq_nop ?_
              exact wq_join _ ⟨A15, _, c15, rfl, X, R15.congr rfl (by unfold preB; simp)⟩ ⟨rfl, rfl, trivial⟩
          · skip
            refine om_ef rfl (ef_lit (z := .int .u8 0) Try.underlying22 (by kernel_rfl) rfl rfl rfl rfl rfl) rfl ?_
            rintro _ w7 ⟨g7, rfl, B7, hg7, ex⟩
            refine ⟨.inr ex, ?_⟩
            replace B1 := B1.ext ex
            replace X := X.ext ex
            replace R4 := R4.ext ex
            replace R5 := R5.ext ex
            replace H4 := H4.ext ex
            have H7 := bs_blk' (xs := [UInt8.ofNat m.kind]) (B7.congr (by rfl)) rfl
            refine wm_one 7 (by kernel_rfl) ?_; refine om_call rfl Try.func81 rfl rfl rfl (three20_any A4 A5 _ k4' c4' 8 c5' 1 1 _ _ _ _ R4.bs (by omega) R5.bs (by omega) H4 (by omega)) rfl ?_
            rintro e w5 ⟨A7, c7, rfl, R7, ex⟩
            refine ⟨_, rfl, .inr ex, ?_⟩
            replace B1 := B1.ext ex
            replace X := X.ext ex
            replace R4 := R4.ext ex
            replace R5 := R5.ext ex
            replace H4 := H4.ext ex
            replace H7 := H7.ext ex
            skip
            refine wm_one 10 (by kernel_rfl) ?_; refine om_call rfl Try.func78 rfl rfl rfl (four20_any m.frm _) rfl ?_
            rintro e w6 ⟨A10, c10, rfl, R10, ex⟩
            refine ⟨_, rfl, .inr ex, ?_⟩
            replace B1 := B1.ext ex
            replace X := X.ext ex
            replace H7 := H7.ext ex
            replace R7 := R7.ext ex
            rw [e64] at R10
            refine wm_one 14 (by kernel_rfl) ?_; refine om_call rfl Try.func76 rfl rfl rfl (join20_any A10 _ 4 c10 1 1 _ _ _ R10.bs (by omega) H7 (by omega)) rfl ?_
            rintro e w8 ⟨A14, c14, rfl, R14, ex⟩
            refine ⟨_, rfl, .inr ex, ?_⟩
            replace B1 := B1.ext ex
            replace X := X.ext ex
            replace H7 := H7.ext ex
            replace R7 := R7.ext ex
            replace R10 := R10.ext ex
            skip
            have hz15 := X.size
            refine wm_one 15 (by kernel_rfl) ?_; refine om_call rfl Try.func76 rfl rfl rfl (join20_any A7 A14 _ c7 _ c14 _ _ _ R7.bs (by omega) R14.bs (by omega)) rfl ?_
            rintro e w9 ⟨A15, c15, rfl, R15, ex⟩
            refine ⟨_, rfl, .inr ex, ?_⟩
            replace B1 := B1.ext ex
            replace X := X.ext ex
            replace R7 := R7.ext ex
            replace R14 := R14.ext ex
            replace R15 := R15.lower hz15
            refine wm_y 16 rfl (by kernel_rfl) (y_assign rfl) rfl ?_
            refine wm_done (by kernel_rfl) ?_
            refine wq_nop ?_
            exact wq_join _ ⟨A15, _, c15, rfl, X, R15.congr rfl (by unfold preB; simp)⟩ ⟨rfl, rfl, trivial⟩
        · skip
          refine om_ef rfl (ef_lit (z := .int .u8 0) Try.underlying22 (by kernel_rfl) rfl rfl rfl rfl rfl) rfl ?_
          rintro _ w7 ⟨g7, rfl, B7, hg7, ex⟩
          refine ⟨.inr ex, ?_⟩
          replace B1 := B1.ext ex
          replace X := X.ext ex
          replace R4 := R4.ext ex
          replace R5 := R5.ext ex
          have H7 := bs_blk' (xs := [UInt8.ofNat m.kind]) (B7.congr (by rfl)) rfl
          refine wm_one 6 (by kernel_rfl) ?_; refine om_ef rfl (ef_lit (z := .int .u8 0) Try.underlying22 (by kernel_rfl) rfl rfl rfl rfl rfl) rfl ?_
          rintro _ w4 ⟨g4, rfl, B4, hg4, ex⟩
          refine ⟨.inr ex, ?_⟩
          replace B1 := B1.ext ex
          replace X := X.ext ex
          replace R4 := R4.ext ex
          replace R5 := R5.ext ex
          replace H7 := H7.ext ex
          have H4 := bs_blk' (xs := [(1 : UInt8)]) (B4.congr (by rfl)) rfl
          refine wm_one 7 (by kernel_rfl) ?_; refine om_call rfl Try.func81 rfl rfl rfl (three20_any A4 A5 _ k4' c4' 8 c5' 1 1 _ _ _ _ R4.bs (by omega) R5.bs (by omega) H4 (by omega)) rfl ?_
          rintro e w5 ⟨A7, c7, rfl, R7, ex⟩
          refine ⟨_, rfl, .inr ex, ?_⟩
          replace B1 := B1.ext ex
          replace X := X.ext ex
          replace R4 := R4.ext ex
          replace R5 := R5.ext ex
          replace H7 := H7.ext ex
          replace H4 := H4.ext ex
          skip
          refine wm_one 10 (by kernel_rfl) ?_; refine om_call rfl Try.func78 rfl rfl rfl (four20_any m.frm _) rfl ?_
          rintro e w6 ⟨A10, c10, rfl, R10, ex⟩
          refine ⟨_, rfl, .inr ex, ?_⟩
          replace B1 := B1.ext ex
          replace X := X.ext ex
          replace H7 := H7.ext ex
          replace R7 := R7.ext ex
          rw [e64] at R10
          refine wm_one 14 (by kernel_rfl) ?_; refine om_call rfl Try.func76 rfl rfl rfl (join20_any A10 _ 4 c10 1 1 _ _ _ R10.bs (by omega) H7 (by omega)) rfl ?_
          rintro e w8 ⟨A14, c14, rfl, R14, ex⟩
          refine ⟨_, rfl, .inr ex, ?_⟩
          replace B1 := B1.ext ex
          replace X := X.ext ex
          replace H7 := H7.ext ex
          replace R7 := R7.ext ex
          replace R10 := R10.ext ex
          skip
          have hz15 := X.size
          refine wm_one 15 (by kernel_rfl) ?_; refine om_call rfl Try.func76 rfl rfl rfl (join20_any A7 A14 _ c7 _ c14 _ _ _ R7.bs (by omega) R14.bs (by omega)) rfl ?_
          rintro e w9 ⟨A15, c15, rfl, R15, ex⟩
          refine ⟨_, rfl, .inr ex, ?_⟩
          replace B1 := B1.ext ex
          replace X := X.ext ex
          replace R7 := R7.ext ex
          replace R14 := R14.ext ex
          replace R15 := R15.lower hz15
          refine wm_y 16 rfl (by kernel_rfl) (y_assign rfl) rfl ?_
          refine wm_done (by kernel_rfl) ?_
          refine wq_nop ?_
          exact wq_join _ ⟨A15, _, c15, rfl, X, R15.congr rfl (by unfold preB; simp)⟩ ⟨rfl, rfl, trivial⟩
      · skip
        refine om_ef rfl (ef_lit (z := .int .u8 0) Try.underlying22 (by kernel_rfl) rfl rfl rfl rfl rfl) rfl ?_
        rintro _ w4 ⟨g4, rfl, B4, hg4, ex⟩
        refine ⟨.inr ex, ?_⟩
        replace B1 := B1.ext ex
        replace X := X.ext ex
        replace R4 := R4.ext ex
        have H4 := bs_blk' (xs := [(1 : UInt8)]) (B4.congr (by rfl)) rfl
        refine wm_two 5 13 (by kernel_rfl) ?_ ?_
        · skip
          refine om_call rfl Try.func97 rfl rfl rfl (refNum_any 8 m.epoch _ (by omega) a1) rfl ?_
          rintro e w3 ⟨A5, c5', rfl, R5, ex⟩
          refine ⟨_, rfl, .inr ex, ?_⟩
          replace B1 := B1.ext ex
          replace X := X.ext ex
          replace R4 := R4.ext ex
          replace H4 := H4.ext ex
          skip
          refine wm_two 7 13 (by kernel_rfl) ?_ ?_
          · skip
            refine om_call rfl Try.func81 rfl rfl rfl (three20_any A4 A5 _ k4' c4' 8 c5' 1 1 _ _ _ _ R4.bs (by omega) R5.bs (by omega) H4 (by omega)) rfl ?_
            rintro e w5 ⟨A7, c7, rfl, R7, ex⟩
            refine ⟨_, rfl, .inr ex, ?_⟩
            replace B1 := B1.ext ex
            replace X := X.ext ex
            replace R4 := R4.ext ex
            replace H4 := H4.ext ex
            replace R5 := R5.ext ex
            skip
            refine wm_two 10 13 (by kernel_rfl) ?_ ?_
            · skip
              refine om_call rfl Try.func78 rfl rfl rfl (four20_any m.frm _) rfl ?_
              rintro e w6 ⟨A10, c10, rfl, R10, ex⟩
              refine ⟨_, rfl, .inr ex, ?_⟩
              replace B1 := B1.ext ex
              replace X := X.ext ex
              replace R7 := R7.ext ex
              rw [e64] at R10
              refine wm_one 13 (by kernel_rfl) ?_; refine om_ef rfl (ef_lit (z := .int .u8 0) Try.underlying22 (by kernel_rfl) rfl rfl rfl rfl rfl) rfl ?_
              rintro _ w7 ⟨g7, rfl, B7, hg7, ex⟩
              refine ⟨.inr ex, ?_⟩
              replace B1 := B1.ext ex
              replace X := X.ext ex
              replace R7 := R7.ext ex
              replace R10 := R10.ext ex
              have H7 := bs_blk' (xs := [UInt8.ofNat m.kind]) (B7.congr (by rfl)) rfl
              refine wm_one 14 (by kernel_rfl) ?_; refine om_call rfl Try.func76 rfl rfl rfl (join20_any A10 _ 4 c10 1 1 _ _ _ R10.bs (by omega) H7 (by omega)) rfl ?_
              rintro e w8 ⟨A14, c14, rfl, R14, ex⟩
              refine ⟨_, rfl, .inr ex, ?_⟩
              replace B1 := B1.ext ex
              replace X := X.ext ex
              replace R7 := R7.ext ex
              replace R10 := R10.ext ex
              replace H7 := H7.ext ex
              skip
              have hz15 := X.size
              refine wm_one 15 (by kernel_rfl) ?_; refine om_call rfl Try.func76 rfl rfl rfl (join20_any A7 A14 _ c7 _ c14 _ _ _ R7.bs (by omega) R14.bs (by omega)) rfl ?_
              rintro e w9 ⟨A15, c15, rfl, R15, ex⟩
              refine ⟨_, rfl, .inr ex, ?_⟩
              replace B1 := B1.ext ex
              replace X := X.ext ex
              replace R7 := R7.ext ex
              replace R14 := R14.ext ex
              replace R15 := R15.lower hz15
              refine wm_y 16 rfl (by kernel_rfl) (y_assign rfl) rfl ?_
              refine wm_done (by kernel_rfl) ?_
              refine wq_nop ?_
              exact wq_join _ ⟨A15, _, c15, rfl, X, R15.congr rfl (by unfold preB; simp)⟩ ⟨rfl, rfl, trivial⟩
            · skip
              refine om_ef rfl (ef_lit (z := .int .u8 0) Try.underlying22 (by kernel_rfl) rfl rfl rfl rfl rfl) rfl ?_
              rintro _ w7 ⟨g7, rfl, B7, hg7, ex⟩
              refine ⟨.inr ex, ?_⟩
              replace B1 := B1.ext ex
              replace X := X.ext ex
              replace R7 := R7.ext ex
              have H7 := bs_blk' (xs := [UInt8.ofNat m.kind]) (B7.congr (by rfl)) rfl
              refine wm_one 10 (by kernel_rfl) ?_; refine om_call rfl Try.func78 rfl rfl rfl (four20_any m.frm _) rfl ?_
              rintro e w6 ⟨A10, c10, rfl, R10, ex⟩
              refine ⟨_, rfl, .inr ex, ?_⟩
              replace B1 := B1.ext ex
              replace X := X.ext ex
              replace R7 := R7.ext ex
              replace H7 := H7.ext ex
              rw [e64] at R10
              refine wm_one 14 (by kernel_rfl) ?_; refine om_call rfl Try.func76 rfl rfl rfl (join20_any A10 _ 4 c10 1 1 _ _ _ R10.bs (by omega) H7 (by omega)) rfl ?_
              rintro e w8 ⟨A14, c14, rfl, R14, ex⟩
              refine ⟨_, rfl, .inr ex, ?_⟩
              replace B1 := B1.ext ex
              replace X := X.ext ex
              replace R7 := R7.ext ex
              replace H7 := H7.ext ex
              replace R10 := R10.ext ex
              skip
              have hz15 := X.size
              refine wm_one 15 (by kernel_rfl) ?_; refine om_call rfl Try.func76 rfl rfl rfl (join20_any A7 A14 _ c7 _ c14 _ _ _ R7.bs (by omega) R14.bs (by omega)) rfl ?_
              rintro e w9 ⟨A15, c15, rfl, R15, ex⟩
              refine ⟨_, rfl, .inr ex, ?_⟩
              replace B1 := B1.ext ex
              replace X := X.ext ex
              replace R7 := R7.ext ex
              replace R14 := R14.ext ex
              replace R15 := R15.lower hz15
              refine wm_y 16 rfl (by kernel_rfl) (y_assign rfl) rfl ?_
              refine wm_done (by kernel_rfl) ?_
              refine wq_nop ?_
              exact wq_join _ ⟨A15, _, c15, rfl, X, R15.congr rfl (by unfold preB; simp)⟩ ⟨rfl, rfl, trivial⟩
          · skip
            refine om_ef rfl (ef_lit (z := .int .u8 0) Try.underlying22 (by kernel_rfl) rfl rfl rfl rfl rfl) rfl ?_
            rintro _ w7 ⟨g7, rfl, B7, hg7, ex⟩
            refine ⟨.inr ex, ?_⟩
            replace B1 := B1.ext ex
            replace X := X.ext ex
            replace R4 := R4.ext ex
            replace H4 := H4.ext ex
            replace R5 := R5.ext ex
            have H7 := bs_blk' (xs := [UInt8.ofNat m.kind]) (B7.congr (by rfl)) rfl
            refine wm_one 7 (by kernel_rfl) ?_; refine om_call rfl Try.func81 rfl rfl rfl (three20_any A4 A5 _ k4' c4' 8 c5' 1 1 _ _ _ _ R4.bs (by omega) R5.bs (by omega) H4 (by omega)) rfl ?_
            rintro e w5 ⟨A7, c7, rfl, R7, ex⟩
            refine ⟨_, rfl, .inr ex, ?_⟩
            replace B1 := B1.ext ex
            replace X := X.ext ex
            replace R4 := R4.ext ex
            replace H4 := H4.ext ex
            replace R5 := R5.ext ex
            replace H7 := H7.ext ex
            skip
            refine wm_one 10 (by kernel_rfl) ?_; refine om_call rfl Try.func78 rfl rfl rfl (four20_any m.frm _) rfl ?_
            rintro e w6 ⟨A10, c10, rfl, R10, ex⟩
            refine ⟨_, rfl, .inr ex, ?_⟩
            replace B1 := B1.ext ex
            replace X := X.ext ex
            replace H7 := H7.ext ex
            replace R7 := R7.ext ex
            rw [e64] at R10
            refine wm_one 14 (by kernel_rfl) ?_; refine om_call rfl Try.func76 rfl rfl rfl (join20_any A10 _ 4 c10 1 1 _ _ _ R10.bs (by omega) H7 (by omega)) rfl ?_
            rintro e w8 ⟨A14, c14, rfl, R14, ex⟩
            refine ⟨_, rfl, .inr ex, ?_⟩
            replace B1 := B1.ext ex
            replace X := X.ext ex
            replace H7 := H7.ext ex
            replace R7 := R7.ext ex
            replace R10 := R10.ext ex
            skip
            have hz15 := X.size
            refine wm_one 15 (by kernel_rfl) ?_; refine om_call rfl Try.func76 rfl rfl rfl (join20_any A7 A14 _ c7 _ c14 _ _ _ R7.bs (by omega) R14.bs (by omega)) rfl ?_
            rintro e w9 ⟨A15, c15, rfl, R15, ex⟩
            refine ⟨_, rfl, .inr ex, ?_⟩
            replace B1 := B1.ext ex
            replace X := X.ext ex
            replace R7 := R7.ext ex
            replace R14 := R14.ext ex
            replace R15 := R15.lower hz15
            refine wm_y 16 rfl (by kernel_rfl) (y_assign rfl) rfl ?_
            refine wm_done (by kernel_rfl) ?_
            refine wq_nop ?_
            exact wq_join _ ⟨A15, _, c15, rfl, X, R15.congr rfl (by unfold preB; simp)⟩ ⟨rfl, rfl, trivial⟩
        · skip
          refine om_ef rfl (ef_lit (z := .int .u8 0) Try.underlying22 (by kernel_rfl) rfl rfl rfl rfl rfl) rfl ?_
          rintro _ w7 ⟨g7, rfl, B7, hg7, ex⟩
          refine ⟨.inr ex, ?_⟩
          replace B1 := B1.ext ex
          replace X := X.ext ex
          replace R4 := R4.ext ex
          replace H4 := H4.ext ex
          have H7 := bs_blk' (xs := [UInt8.ofNat m.kind]) (B7.congr (by rfl)) rfl
          refine wm_one 5 (by kernel_rfl) ?_; refine om_call rfl Try.func97 rfl rfl rfl (refNum_any 8 m.epoch _ (by omega) a1) rfl ?_
          rintro e w3 ⟨A5, c5', rfl, R5, ex⟩
          refine ⟨_, rfl, .inr ex, ?_⟩
          replace B1 := B1.ext ex
          replace X := X.ext ex
          replace R4 := R4.ext ex
          replace H4 := H4.ext ex
          replace H7 := H7.ext ex
          skip
          refine wm_one 7 (by kernel_rfl) ?_; refine om_call rfl Try.func81 rfl rfl rfl (three20_any A4 A5 _ k4' c4' 8 c5' 1 1 _ _ _ _ R4.bs (by omega) R5.bs (by omega) H4 (by omega)) rfl ?_
          rintro e w5 ⟨A7, c7, rfl, R7, ex⟩
          refine ⟨_, rfl, .inr ex, ?_⟩
          replace B1 := B1.ext ex
          replace X := X.ext ex
          replace R4 := R4.ext ex
          replace H4 := H4.ext ex
          replace H7 := H7.ext ex
          replace R5 := R5.ext ex
          skip
          refine wm_one 10 (by kernel_rfl) ?_; refine om_call rfl Try.func78 rfl rfl rfl (four20_any m.frm _) rfl ?_
          rintro e w6 ⟨A10, c10, rfl, R10, ex⟩
          refine ⟨_, rfl, .inr ex, ?_⟩
          replace B1 := B1.ext ex
          replace X := X.ext ex
          replace H7 := H7.ext ex
          replace R7 := R7.ext ex
          rw [e64] at R10
          refine wm_one 14 (by kernel_rfl) ?_; refine om_call rfl Try.func76 rfl rfl rfl (join20_any A10 _ 4 c10 1 1 _ _ _ R10.bs (by omega) H7 (by omega)) rfl ?_
          rintro e w8 ⟨A14, c14, rfl, R14, ex⟩
          refine ⟨_, rfl, .inr ex, ?_⟩
          replace B1 := B1.ext ex
          replace X := X.ext ex
          replace H7 := H7.ext ex
          replace R7 := R7.ext ex
          replace R10 := R10.ext ex
          skip
          have hz15 := X.size
          refine wm_one 15 (by kernel_rfl) ?_; refine om_call rfl Try.func76 rfl rfl rfl (join20_any A7 A14 _ c7 _ c14 _ _ _ R7.bs (by omega) R14.bs (by omega)) rfl ?_
          rintro e w9 ⟨A15, c15, rfl, R15, ex⟩
          refine ⟨_, rfl, .inr ex, ?_⟩
          replace B1 := B1.ext ex
          replace X := X.ext ex
          replace R7 := R7.ext ex
          replace R14 := R14.ext ex
          replace R15 := R15.lower hz15
          refine wm_y 16 rfl (by kernel_rfl) (y_assign rfl) rfl ?_
          refine wm_done (by kernel_rfl) ?_
          refine wq_nop ?_
          exact wq_join _ ⟨A15, _, c15, rfl, X, R15.congr rfl (by unfold preB; simp)⟩ ⟨rfl, rfl, trivial⟩
      · skip
        refine om_ef rfl (ef_lit (z := .int .u8 0) Try.underlying22 (by kernel_rfl) rfl rfl rfl rfl rfl) rfl ?_
        rintro _ w7 ⟨g7, rfl, B7, hg7, ex⟩
        refine ⟨.inr ex, ?_⟩
        replace B1 := B1.ext ex
        replace X := X.ext ex
        replace R4 := R4.ext ex
        have H7 := bs_blk' (xs := [UInt8.ofNat m.kind]) (B7.congr (by rfl)) rfl
        refine wm_two 5 6 (by kernel_rfl) ?_ ?_
        · skip
          refine om_call rfl Try.func97 rfl rfl rfl (refNum_any 8 m.epoch _ (by omega) a1) rfl ?_
          rintro e w3 ⟨A5, c5', rfl, R5, ex⟩
          refine ⟨_, rfl, .inr ex, ?_⟩
          replace B1 := B1.ext ex
          replace X := X.ext ex
          replace R4 := R4.ext ex
          replace H7 := H7.ext ex
          skip
          refine wm_one 6 (by kernel_rfl) ?_; refine om_ef rfl (ef_lit (z := .int .u8 0) Try.underlying22 (by kernel_rfl) rfl rfl rfl rfl rfl) rfl ?_
          rintro _ w4 ⟨g4, rfl, B4, hg4, ex⟩
          refine ⟨.inr ex, ?_⟩
          replace B1 := B1.ext ex
          replace X := X.ext ex
          replace R4 := R4.ext ex
          replace H7 := H7.ext ex
          replace R5 := R5.ext ex
          have H4 := bs_blk' (xs := [(1 : UInt8)]) (B4.congr (by rfl)) rfl
          refine wm_one 7 (by kernel_rfl) ?_; refine om_call rfl Try.func81 rfl rfl rfl (three20_any A4 A5 _ k4' c4' 8 c5' 1 1 _ _ _ _ R4.bs (by omega) R5.bs (by omega) H4 (by omega)) rfl ?_
          rintro e w5 ⟨A7, c7, rfl, R7, ex⟩
          refine ⟨_, rfl, .inr ex, ?_⟩
          replace B1 := B1.ext ex
          replace X := X.ext ex
          replace R4 := R4.ext ex
          replace H7 := H7.ext ex
          replace R5 := R5.ext ex
          replace H4 := H4.ext ex
          skip
          refine wm_one 10 (by kernel_rfl) ?_; refine om_call rfl Try.func78 rfl rfl rfl (four20_any m.frm _) rfl ?_
          rintro e w6 ⟨A10, c10, rfl, R10, ex⟩
          refine ⟨_, rfl, .inr ex, ?_⟩
          replace B1 := B1.ext ex
          replace X := X.ext ex
          replace H7 := H7.ext ex
          replace R7 := R7.ext ex
          rw [e64] at R10
          refine wm_one 14 (by kernel_rfl) ?_; refine om_call rfl Try.func76 rfl rfl rfl (join20_any A10 _ 4 c10 1 1 _ _ _ R10.bs (by omega) H7 (by omega)) rfl ?_
          rintro e w8 ⟨A14, c14, rfl, R14, ex⟩
          refine ⟨_, rfl, .inr ex, ?_⟩
          replace B1 := B1.ext ex
          replace X := X.ext ex
          replace H7 := H7.ext ex
          replace R7 := R7.ext ex
          replace R10 := R10.ext ex
          skip
          have hz15 := X.size
          refine wm_one 15 (by kernel_rfl) ?_; refine om_call rfl Try.func76 rfl rfl rfl (join20_any A7 A14 _ c7 _ c14 _ _ _ R7.bs (by omega) R14.bs (by omega)) rfl ?_
          rintro e w9 ⟨A15, c15, rfl, R15, ex⟩
          refine ⟨_, rfl, .inr ex, ?_⟩
          replace B1 := B1.ext ex
          replace X := X.ext ex
          replace R7 := R7.ext ex
          replace R14 := R14.ext ex
          replace R15 := R15.lower hz15
          refine wm_y 16 rfl (by kernel_rfl) (y_assign rfl) rfl ?_
          refine wm_done (by kernel_rfl) ?_
          refine wq_nop ?_
          exact wq_join _ ⟨A15, _, c15, rfl, X, R15.congr rfl (by unfold preB; simp)⟩ ⟨rfl, rfl, trivial⟩
        · skip
          refine om_ef rfl (ef_lit (z := .int .u8 0) Try.underlying22 (by kernel_rfl) rfl rfl rfl rfl rfl) rfl ?_
          rintro _ w4 ⟨g4, rfl, B4, hg4, ex⟩
          refine ⟨.inr ex, ?_⟩
          replace B1 := B1.ext ex
          replace X := X.ext ex
          replace R4 := R4.ext ex
          replace H7 := H7.ext ex
          have H4 := bs_blk' (xs := [(1 : UInt8)]) (B4.congr (by rfl)) rfl
          refine wm_one 5 (by kernel_rfl) ?_; refine om_call rfl Try.func97 rfl rfl rfl (refNum_any 8 m.epoch _ (by omega) a1) rfl ?_
          rintro e w3 ⟨A5, c5', rfl, R5, ex⟩
          refine ⟨_, rfl, .inr ex, ?_⟩
          replace B1 := B1.ext ex
          replace X := X.ext ex
          replace R4 := R4.ext ex
          replace H7 := H7.ext ex
          replace H4 := H4.ext ex
          skip
          refine wm_one 7 (by kernel_rfl) ?_; refine om_call rfl Try.func81 rfl rfl rfl (three20_any A4 A5 _ k4' c4' 8 c5' 1 1 _ _ _ _ R4.bs (by omega) R5.bs (by omega) H4 (by omega)) rfl ?_
          rintro e w5 ⟨A7, c7, rfl, R7, ex⟩
          refine ⟨_, rfl, .inr ex, ?_⟩
          replace B1 := B1.ext ex
          replace X := X.ext ex
          replace R4 := R4.ext ex
          replace H7 := H7.ext ex
          replace H4 := H4.ext ex
          replace R5 := R5.ext ex
          skip
          refine wm_one 10 (by kernel_rfl) ?_; refine om_call rfl Try.func78 rfl rfl rfl (four20_any m.frm _) rfl ?_
          rintro e w6 ⟨A10, c10, rfl, R10, ex⟩
          refine ⟨_, rfl, .inr ex, ?_⟩
          replace B1 := B1.ext ex
          replace X := X.ext ex
          replace H7 := H7.ext ex
          replace R7 := R7.ext ex
          rw [e64] at R10
          refine wm_one 14 (by kernel_rfl) ?_; refine om_call rfl Try.func76 rfl rfl rfl (join20_any A10 _ 4 c10 1 1 _ _ _ R10.bs (by omega) H7 (by omega)) rfl ?_
          rintro e w8 ⟨A14, c14, rfl, R14, ex⟩
          refine ⟨_, rfl, .inr ex, ?_⟩
          replace B1 := B1.ext ex
          replace X := X.ext ex
          replace H7 := H7.ext ex
          replace R7 := R7.ext ex
          replace R10 := R10.ext ex
          skip
          have hz15 := X.size
          refine wm_one 15 (by kernel_rfl) ?_; refine om_call rfl Try.func76 rfl rfl rfl (join20_any A7 A14 _ c7 _ c14 _ _ _ R7.bs (by omega) R14.bs (by omega)) rfl ?_
          rintro e w9 ⟨A15, c15, rfl, R15, ex⟩
          refine ⟨_, rfl, .inr ex, ?_⟩
          replace B1 := B1.ext ex
          replace X := X.ext ex
          replace R7 := R7.ext ex
          replace R14 := R14.ext ex
          replace R15 := R15.lower hz15
          refine wm_y 16 rfl (by kernel_rfl) (y_assign rfl) rfl ?_
          refine wm_done (by kernel_rfl) ?_
          refine wq_nop ?_
          exact wq_join _ ⟨A15, _, c15, rfl, X, R15.congr rfl (by unfold preB; simp)⟩ ⟨rfl, rfl, trivial⟩
    · skip
      refine om_ef rfl (ef_lit (z := .int .u8 0) Try.underlying22 (by kernel_rfl) rfl rfl rfl rfl rfl) rfl ?_
      rintro _ w4 ⟨g4, rfl, B4, hg4, ex⟩
      refine ⟨.inr ex, ?_⟩
      replace B1 := B1.ext ex
      replace X := X.ext ex
      have H4 := bs_blk' (xs := [(1 : UInt8)]) (B4.congr (by rfl)) rfl
      refine wm_two 2 13 (by kernel_rfl) ?_ ?_
      · skip
        refine om_call rfl Try.func82 rfl rfl rfl (vec20_any gr.A gr.n gr.c _ _ (Bs.ext D (E.ext X)) (by omega)) rfl ?_
        rintro e w2 ⟨A4, k4', c4', rfl, R4, hk4, ex⟩
        refine ⟨_, rfl, .inr ex, ?_⟩
        replace B1 := B1.ext ex
        replace X := X.ext ex
        replace H4 := H4.ext ex
        have hl4 := lsz_le gr.n
        refine wm_two 5 13 (by kernel_rfl) ?_ ?_
        · skip
          refine om_call rfl Try.func97 rfl rfl rfl (refNum_any 8 m.epoch _ (by omega) a1) rfl ?_
          rintro e w3 ⟨A5, c5', rfl, R5, ex⟩
          refine ⟨_, rfl, .inr ex, ?_⟩
          replace B1 := B1.ext ex
          replace X := X.ext ex
          replace H4 := H4.ext ex
          replace R4 := R4.ext ex
          skip
          refine wm_two 7 13 (by kernel_rfl) ?_ ?_
          · skip
            refine om_call rfl Try.func81 rfl rfl rfl (three20_any A4 A5 _ k4' c4' 8 c5' 1 1 _ _ _ _ R4.bs (by omega) R5.bs (by omega) H4 (by omega)) rfl ?_
            rintro e w5 ⟨A7, c7, rfl, R7, ex⟩
            refine ⟨_, rfl, .inr ex, ?_⟩
            replace B1 := B1.ext ex
            replace X := X.ext ex
            replace H4 := H4.ext ex
            replace R4 := R4.ext ex
            replace R5 := R5.ext ex
            skip
            refine wm_two 10 13 (by kernel_rfl) ?_ ?_
            · skip
              refine om_call rfl Try.func78 rfl rfl rfl (four20_any m.frm _) rfl ?_
              rintro e w6 ⟨A10, c10, rfl, R10, ex⟩
              refine ⟨_, rfl, .inr ex, ?_⟩
              replace B1 := B1.ext ex
              replace X := X.ext ex
              replace R7 := R7.ext ex
              rw [e64] at R10
              refine wm_one 13 (by kernel_rfl) ?_; refine om_ef rfl (ef_lit (z := .int .u8 0) Try.underlying22 (by kernel_rfl) rfl rfl rfl rfl rfl) rfl ?_
              rintro _ w7 ⟨g7, rfl, B7, hg7, ex⟩
              refine ⟨.inr ex, ?_⟩
              replace B1 := B1.ext ex
              replace X := X.ext ex
              replace R7 := R7.ext ex
              replace R10 := R10.ext ex
              have H7 := bs_blk' (xs := [UInt8.ofNat m.kind]) (B7.congr (by rfl)) rfl
              refine wm_one 14 (by kernel_rfl) ?_; refine om_call rfl Try.func76 rfl rfl rfl (join20_any A10 _ 4 c10 1 1 _ _ _ R10.bs (by omega) H7 (by omega)) rfl ?_
              rintro e w8 ⟨A14, c14, rfl, R14, ex⟩
              refine ⟨_, rfl, .inr ex, ?_⟩
              replace B1 := B1.ext ex
              replace X := X.ext ex
              replace R7 := R7.ext ex
              replace R10 := R10.ext ex
              replace H7 := H7.ext ex
              skip
              have hz15 := X.size
              refine wm_one 15 (by kernel_rfl) ?_; refine om_call rfl Try.func76 rfl rfl rfl (join20_any A7 A14 _ c7 _ c14 _ _ _ R7.bs (by omega) R14.bs (by omega)) rfl ?_
              rintro e w9 ⟨A15, c15, rfl, R15, ex⟩
              refine ⟨_, rfl, .inr ex, ?_⟩
              replace B1 := B1.ext ex
              replace X := X.ext ex
              replace R7 := R7.ext ex
              replace R14 := R14.ext ex
              replace R15 := R15.lower hz15
              refine wm_y 16 rfl (by kernel_rfl) (y_assign rfl) rfl ?_
              refine wm_done (by kernel_rfl) ?_
              refine wq_nop ?_
              exact wq_join _ ⟨A15, _, c15, rfl, X, R15.congr rfl (by unfold preB; simp)⟩ ⟨rfl, rfl, trivial⟩
            · skip
              refine om_ef rfl (ef_lit (z := .int .u8 0) Try.underlying22 (by kernel_rfl) rfl rfl rfl rfl rfl) rfl ?_
              rintro _ w7 ⟨g7, rfl, B7, hg7, ex⟩
              refine ⟨.inr ex, ?_⟩
              replace B1 := B1.ext ex
              replace X := X.ext ex
              replace R7 := R7.ext ex
              have H7 := bs_blk' (xs := [UInt8.ofNat m.kind]) (B7.congr (by rfl)) rfl
              refine wm_one 10 (by kernel_rfl) ?_; refine om_call rfl Try.func78 rfl rfl rfl (four20_any m.frm _) rfl ?_
              rintro e w6 ⟨A10, c10, rfl, R10, ex⟩
              refine ⟨_, rfl, .inr ex, ?_⟩
              replace B1 := B1.ext ex
              replace X := X.ext ex
              replace R7 := R7.ext ex
              replace H7 := H7.ext ex
              rw [e64] at R10
              refine wm_one 14 (by kernel_rfl) ?_; refine om_call rfl Try.func76 rfl rfl rfl (join20_any A10 _ 4 c10 1 1 _ _ _ R10.bs (by omega) H7 (by omega)) rfl ?_
              rintro e w8 ⟨A14, c14, rfl, R14, ex⟩
              refine ⟨_, rfl, .inr ex, ?_⟩
              replace B1 := B1.ext ex
              replace X := X.ext ex
              replace R7 := R7.ext ex
              replace H7 := H7.ext ex
              replace R10 := R10.ext ex
              skip
              have hz15 := X.size
              refine wm_one 15 (by kernel_rfl) ?_; refine om_call rfl Try.func76 rfl rfl rfl (join20_any A7 A14 _ c7 _ c14 _ _ _ R7.bs (by omega) R14.bs (by omega)) rfl ?_
              rintro e w9 ⟨A15, c15, rfl, R15, ex⟩
              refine ⟨_, rfl, .inr ex, ?_⟩
              replace B1 := B1.ext ex
              replace X := X.ext ex
              replace R7 := R7.ext ex
              replace R14 := R14.ext ex
              replace R15 := R15.lower hz15
              refine wm_y 16 rfl (by kernel_rfl) (y_assign rfl) rfl ?_
              refine wm_done (by kernel_rfl) ?_
              refine wq_nop ?_
              exact wq_join _ ⟨A15, _, c15, rfl, X, R15.congr rfl (by unfold preB; simp)⟩ ⟨rfl, rfl, trivial⟩
          · skip
            refine om_ef rfl (ef_lit (z := .int .u8 0) Try.underlying22 (by kernel_rfl) rfl rfl rfl rfl rfl) rfl ?_
            rintro _ w7 ⟨g7, rfl, B7, hg7, ex⟩
            refine ⟨.inr ex, ?_⟩
            replace B1 := B1.ext ex
            replace X := X.ext ex
            replace H4 := H4.ext ex
            replace R4 := R4.ext ex
            replace R5 := R5.ext ex
            have H7 := bs_blk' (xs := [UInt8.ofNat m.kind]) (B7.congr (by rfl)) rfl
            refine wm_one 7 (by kernel_rfl) ?_; refine om_call rfl Try.func81 rfl rfl rfl (three20_any A4 A5 _ k4' c4' 8 c5' 1 1 _ _ _ _ R4.bs (by omega) R5.bs (by omega) H4 (by omega)) rfl ?_
            rintro e w5 ⟨A7, c7, rfl, R7, ex⟩
            refine ⟨_, rfl, .inr ex, ?_⟩
            replace B1 := B1.ext ex
            replace X := X.ext ex
            replace H4 := H4.ext ex
            replace R4 := R4.ext ex
            replace R5 := R5.ext ex
            replace H7 := H7.ext ex
            skip
            refine wm_one 10 (by kernel_rfl) ?_; refine om_call rfl Try.func78 rfl rfl rfl (four20_any m.frm _) rfl ?_
            rintro e w6 ⟨A10, c10, rfl, R10, ex⟩
            refine ⟨_, rfl, .inr ex, ?_⟩
            replace B1 := B1.ext ex
            replace X := X.ext ex
            replace H7 := H7.ext ex
            replace R7 := R7.ext ex
            rw [e64] at R10
            refine wm_one 14 (by kernel_rfl) ?_; refine om_call rfl Try.func76 rfl rfl rfl (join20_any A10 _ 4 c10 1 1 _ _ _ R10.bs (by omega) H7 (by omega)) rfl ?_
            rintro e w8 ⟨A14, c14, rfl, R14, ex⟩
            refine ⟨_, rfl, .inr ex, ?_⟩
            replace B1 := B1.ext ex
            replace X := X.ext ex
            replace H7 := H7.ext ex
            replace R7 := R7.ext ex
            replace R10 := R10.ext ex
            skip
            have hz15 := X.size
            refine wm_one 15 (by kernel_rfl) ?_; refine om_call rfl Try.func76 rfl rfl rfl (join20_any A7 A14 _ c7 _ c14 _ _ _ R7.bs (by omega) R14.bs (by omega)) rfl ?_
            rintro e w9 ⟨A15, c15, rfl, R15, ex⟩
            refine ⟨_, rfl, .inr ex, ?_⟩
            replace B1 := B1.ext ex
            replace X := X.ext ex
            replace R7 := R7.ext ex
            replace R14 := R14.ext ex
            replace R15 := R15.lower hz15
            refine wm_y 16 rfl (by kernel_rfl) (y_assign rfl) rfl ?_
            refine wm_done (by kernel_rfl) ?_
            refine wq_nop ?_
            exact wq_join _ ⟨A15, _, c15, rfl, X, R15.congr rfl (by unfold preB; simp)⟩ ⟨rfl, rfl, trivial⟩
        · skip
          refine om_ef rfl (ef_lit (z := .int .u8 0) Try.underlying22 (by kernel_rfl) rfl rfl rfl rfl rfl) rfl ?_
          rintro _ w7 ⟨g7, rfl, B7, hg7, ex⟩
          refine ⟨.inr ex, ?_⟩
          replace B1 := B1.ext ex
          replace X := X.ext ex
          replace H4 := H4.ext ex
          replace R4 := R4.ext ex
          have H7 := bs_blk' (xs := [UInt8.ofNat m.kind]) (B7.congr (by rfl)) rfl
          refine wm_one 5 (by kernel_rfl) ?_; refine om_call rfl Try.func97 rfl rfl rfl (refNum_any 8 m.epoch _ (by omega) a1) rfl ?_
          rintro e w3 ⟨A5, c5', rfl, R5, ex⟩
          refine ⟨_, rfl, .inr ex, ?_⟩
          replace B1 := B1.ext ex
          replace X := X.ext ex
          replace H4 := H4.ext ex
          replace R4 := R4.ext ex
          replace H7 := H7.ext ex
          skip
          refine wm_one 7 (by kernel_rfl) ?_; refine om_call rfl Try.func81 rfl rfl rfl (three20_any A4 A5 _ k4' c4' 8 c5' 1 1 _ _ _ _ R4.bs (by omega) R5.bs (by omega) H4 (by omega)) rfl ?_
          rintro e w5 ⟨A7, c7, rfl, R7, ex⟩
          refine ⟨_, rfl, .inr ex, ?_⟩
          replace B1 := B1.ext ex
          replace X := X.ext ex
          replace H4 := H4.ext ex
          replace R4 := R4.ext ex
          replace H7 := H7.ext ex
          replace R5 := R5.ext ex
          skip
          refine wm_one 10 (by kernel_rfl) ?_; refine om_call rfl Try.func78 rfl rfl rfl (four20_any m.frm _) rfl ?_
          rintro e w6 ⟨A10, c10, rfl, R10, ex⟩
          refine ⟨_, rfl, .inr ex, ?_⟩
          replace B1 := B1.ext ex
          replace X := X.ext ex
          replace H7 := H7.ext ex
          replace R7 := R7.ext ex
          rw [e64] at R10
          refine wm_one 14 (by kernel_rfl) ?_; refine om_call rfl Try.func76 rfl rfl rfl (join20_any A10 _ 4 c10 1 1 _ _ _ R10.bs (by omega) H7 (by omega)) rfl ?_
          rintro e w8 ⟨A14, c14, rfl, R14, ex⟩
          refine ⟨_, rfl, .inr ex, ?_⟩
          replace B1 := B1.ext ex
          replace X := X.ext ex
          replace H7 := H7.ext ex
          replace R7 := R7.ext ex
          replace R10 := R10.ext ex
          skip
          have hz15 := X.size
          refine wm_one 15 (by kernel_rfl) ?_; refine om_call rfl Try.func76 rfl rfl rfl (join20_any A7 A14 _ c7 _ c14 _ _ _ R7.bs (by omega) R14.bs (by omega)) rfl ?_
          rintro e w9 ⟨A15, c15, rfl, R15, ex⟩
          refine ⟨_, rfl, .inr ex, ?_⟩
          replace B1 := B1.ext ex
          replace X := X.ext ex
          replace R7 := R7.ext ex
          replace R14 := R14.ext ex
          replace R15 := R15.lower hz15
          refine wm_y 16 rfl (by kernel_rfl) (y_assign rfl) rfl ?_
          refine wm_done (by kernel_rfl) ?_
          refine wq_nop ?_
          exact wq_join _ ⟨A15, _, c15, rfl, X, R15.congr rfl (by unfold preB; simp)⟩ ⟨rfl, rfl, trivial⟩
      · skip
        refine om_ef rfl (ef_lit (z := .int .u8 0) Try.underlying22 (by kernel_rfl) rfl rfl rfl rfl rfl) rfl ?_
        rintro _ w7 ⟨g7, rfl, B7, hg7, ex⟩
        refine ⟨.inr ex, ?_⟩
        replace B1 := B1.ext ex
        replace X := X.ext ex
        replace H4 := H4.ext ex
        have H7 := bs_blk' (xs := [UInt8.ofNat m.kind]) (B7.congr (by rfl)) rfl
        refine wm_one 2 (by kernel_rfl) ?_; refine om_call rfl Try.func82 rfl rfl rfl (vec20_any gr.A gr.n gr.c _ _ (Bs.ext D (E.ext X)) (by omega)) rfl ?_
        rintro e w2 ⟨A4, k4', c4', rfl, R4, hk4, ex⟩
        refine ⟨_, rfl, .inr ex, ?_⟩
        replace B1 := B1.ext ex
        replace X := X.ext ex
        replace H4 := H4.ext ex
        replace H7 := H7.ext ex
        have hl4 := lsz_le gr.n
        refine wm_one 5 (by kernel_rfl) ?_; refine om_call rfl Try.func97 rfl rfl rfl (refNum_any 8 m.epoch _ (by omega) a1) rfl ?_
        rintro e w3 ⟨A5, c5', rfl, R5, ex⟩
        refine ⟨_, rfl, .inr ex, ?_⟩
        replace B1 := B1.ext ex
        replace X := X.ext ex
        replace H4 := H4.ext ex
        replace H7 := H7.ext ex
        replace R4 := R4.ext ex
        skip
        refine wm_one 7 (by kernel_rfl) ?_; refine om_call rfl Try.func81 rfl rfl rfl (three20_any A4 A5 _ k4' c4' 8 c5' 1 1 _ _ _ _ R4.bs (by omega) R5.bs (by omega) H4 (by omega)) rfl ?_
        rintro e w5 ⟨A7, c7, rfl, R7, ex⟩
        refine ⟨_, rfl, .inr ex, ?_⟩
        replace B1 := B1.ext ex
        replace X := X.ext ex
        replace H4 := H4.ext ex
        replace H7 := H7.ext ex
        replace R4 := R4.ext ex
        replace R5 := R5.ext ex
        skip
        refine wm_one 10 (by kernel_rfl) ?_; refine om_call rfl Try.func78 rfl rfl rfl (four20_any m.frm _) rfl ?_
        rintro e w6 ⟨A10, c10, rfl, R10, ex⟩
        refine ⟨_, rfl, .inr ex, ?_⟩
        replace B1 := B1.ext ex
        replace X := X.ext ex
        replace H7 := H7.ext ex
        replace R7 := R7.ext ex
        rw [e64] at R10
        refine wm_one 14 (by kernel_rfl) ?_; refine om_call rfl Try.func76 rfl rfl rfl (join20_any A10 _ 4 c10 1 1 _ _ _ R10.bs (by omega) H7 (by omega)) rfl ?_
        rintro e w8 ⟨A14, c14, rfl, R14, ex⟩
        refine ⟨_, rfl, .inr ex, ?_⟩
        replace B1 := B1.ext ex
        replace X := X.ext ex
        replace H7 := H7.ext ex
        replace R7 := R7.ext ex
        replace R10 := R10.ext ex
        skip
        have hz15 := X.size
        refine wm_one 15 (by kernel_rfl) ?_; refine om_call rfl Try.func76 rfl rfl rfl (join20_any A7 A14 _ c7 _ c14 _ _ _ R7.bs (by omega) R14.bs (by omega)) rfl ?_
        rintro e w9 ⟨A15, c15, rfl, R15, ex⟩
        refine ⟨_, rfl, .inr ex, ?_⟩
        replace B1 := B1.ext ex
        replace X := X.ext ex
        replace R7 := R7.ext ex
        replace R14 := R14.ext ex
        replace R15 := R15.lower hz15
        refine wm_y 16 rfl (by kernel_rfl) (y_assign rfl) rfl ?_
        refine wm_done (by kernel_rfl) ?_
        refine wq_nop ?_
        exact wq_join _ ⟨A15, _, c15, rfl, X, R15.congr rfl (by unfold preB; simp)⟩ ⟨rfl, rfl, trivial⟩
    · skip
      refine om_ef rfl (ef_lit (z := .int .u8 0) Try.underlying22 (by kernel_rfl) rfl rfl rfl rfl rfl) rfl ?_
      rintro _ w7 ⟨g7, rfl, B7, hg7, ex⟩
      refine ⟨.inr ex, ?_⟩
      replace B1 := B1.ext ex
      replace X := X.ext ex
      have H7 := bs_blk' (xs := [UInt8.ofNat m.kind]) (B7.congr (by rfl)) rfl
      refine wm_two 2 6 (by kernel_rfl) ?_ ?_
      · skip
        refine om_call rfl Try.func82 rfl rfl rfl (vec20_any gr.A gr.n gr.c _ _ (Bs.ext D (E.ext X)) (by omega)) rfl ?_
        rintro e w2 ⟨A4, k4', c4', rfl, R4, hk4, ex⟩
        refine ⟨_, rfl, .inr ex, ?_⟩
        replace B1 := B1.ext ex
        replace X := X.ext ex
        replace H7 := H7.ext ex
        have hl4 := lsz_le gr.n
        refine wm_two 5 6 (by kernel_rfl) ?_ ?_
        · skip
          refine om_call rfl Try.func97 rfl rfl rfl (refNum_any 8 m.epoch _ (by omega) a1) rfl ?_
          rintro e w3 ⟨A5, c5', rfl, R5, ex⟩
          refine ⟨_, rfl, .inr ex, ?_⟩
          replace B1 := B1.ext ex
          replace X := X.ext ex
          replace H7 := H7.ext ex
          replace R4 := R4.ext ex
          skip
          refine wm_one 6 (by kernel_rfl) ?_; refine om_ef rfl (ef_lit (z := .int .u8 0) Try.underlying22 (by kernel_rfl) rfl rfl rfl rfl rfl) rfl ?_
          rintro _ w4 ⟨g4, rfl, B4, hg4, ex⟩
          refine ⟨.inr ex, ?_⟩
          replace B1 := B1.ext ex
          replace X := X.ext ex
          replace H7 := H7.ext ex
          replace R4 := R4.ext ex
          replace R5 := R5.ext ex
          have H4 := bs_blk' (xs := [(1 : UInt8)]) (B4.congr (by rfl)) rfl
          refine wm_one 7 (by kernel_rfl) ?_; refine om_call rfl Try.func81 rfl rfl rfl (three20_any A4 A5 _ k4' c4' 8 c5' 1 1 _ _ _ _ R4.bs (by omega) R5.bs (by omega) H4 (by omega)) rfl ?_
          rintro e w5 ⟨A7, c7, rfl, R7, ex⟩
          refine ⟨_, rfl, .inr ex, ?_⟩
          replace B1 := B1.ext ex
          replace X := X.ext ex
          replace H7 := H7.ext ex
          replace R4 := R4.ext ex
          replace R5 := R5.ext ex
          replace H4 := H4.ext ex
          skip
          refine wm_one 10 (by kernel_rfl) ?_; refine om_call rfl Try.func78 rfl rfl rfl (four20_any m.frm _) rfl ?_
          rintro e w6 ⟨A10, c10, rfl, R10, ex⟩
          refine ⟨_, rfl, .inr ex, ?_⟩
          replace B1 := B1.ext ex
          replace X := X.ext ex
          replace H7 := H7.ext ex
          replace R7 := R7.ext ex
          rw [e64] at R10
          refine wm_one 14 (by kernel_rfl) ?_; refine om_call rfl Try.func76 rfl rfl rfl (join20_any A10 _ 4 c10 1 1 _ _ _ R10.bs (by omega) H7 (by omega)) rfl ?_
          rintro e w8 ⟨A14, c14, rfl, R14, ex⟩
          refine ⟨_, rfl, .inr ex, ?_⟩
          replace B1 := B1.ext ex
          replace X := X.ext ex
          replace H7 := H7.ext ex
          replace R7 := R7.ext ex
          replace R10 := R10.ext ex
          skip
          have hz15 := X.size
          refine wm_one 15 (by kernel_rfl) ?_; refine om_call rfl Try.func76 rfl rfl rfl (join20_any A7 A14 _ c7 _ c14 _ _ _ R7.bs (by omega) R14.bs (by omega)) rfl ?_
          rintro e w9 ⟨A15, c15, rfl, R15, ex⟩
          refine ⟨_, rfl, .inr ex, ?_⟩
          replace B1 := B1.ext ex
          replace X := X.ext ex
          replace R7 := R7.ext ex
          replace R14 := R14.ext ex
          replace R15 := R15.lower hz15
          refine wm_y 16 rfl (by kernel_rfl) (y_assign rfl) rfl ?_
          refine wm_done (by kernel_rfl) ?_
          refine wq_nop ?_
          exact wq_join _ ⟨A15, _, c15, rfl, X, R15.congr rfl (by unfold preB; simp)⟩ ⟨rfl, rfl, trivial⟩
        · skip
          refine om_ef rfl (ef_lit (z := .int .u8 0) Try.underlying22 (by kernel_rfl) rfl rfl rfl rfl rfl) rfl ?_
          rintro _ w4 ⟨g4, rfl, B4, hg4, ex⟩
          refine ⟨.inr ex, ?_⟩
          replace B1 := B1.ext ex
          replace X := X.ext ex
          replace H7 := H7.ext ex
          replace R4 := R4.ext ex
          have H4 := bs_blk' (xs := [(1 : UInt8)]) (B4.congr (by rfl)) rfl
          refine wm_one 5 (by kernel_rfl) ?_; refine om_call rfl Try.func97 rfl rfl rfl (refNum_any 8 m.epoch _ (by omega) a1) rfl ?_
          rintro e w3 ⟨A5, c5', rfl, R5, ex⟩
          refine ⟨_, rfl, .inr ex, ?_⟩
          replace B1 := B1.ext ex
          replace X := X.ext ex
          replace H7 := H7.ext ex
          replace R4 := R4.ext ex
          replace H4 := H4.ext ex
          skip
          refine wm_one 7 (by kernel_rfl) ?_; refine om_call rfl Try.func81 rfl rfl rfl (three20_any A4 A5 _ k4' c4' 8 c5' 1 1 _ _ _ _ R4.bs (by omega) R5.bs (by omega) H4 (by omega)) rfl ?_
          rintro e w5 ⟨A7, c7, rfl, R7, ex⟩
          refine ⟨_, rfl, .inr ex, ?_⟩
          replace B1 := B1.ext ex
          replace X := X.ext ex
          replace H7 := H7.ext ex
          replace R4 := R4.ext ex
          replace H4 := H4.ext ex
          replace R5 := R5.ext ex
          skip
          refine wm_one 10 (by kernel_rfl) ?_; refine om_call rfl Try.func78 rfl rfl rfl (four20_any m.frm _) rfl ?_
          rintro e w6 ⟨A10, c10, rfl, R10, ex⟩
          refine ⟨_, rfl, .inr ex, ?_⟩
          replace B1 := B1.ext ex
          replace X := X.ext ex
          replace H7 := H7.ext ex
          replace R7 := R7.ext ex
          rw [e64] at R10
          refine wm_one 14 (by kernel_rfl) ?_; refine om_call rfl Try.func76 rfl rfl rfl (join20_any A10 _ 4 c10 1 1 _ _ _ R10.bs (by omega) H7 (by omega)) rfl ?_
          rintro e w8 ⟨A14, c14, rfl, R14, ex⟩
          refine ⟨_, rfl, .inr ex, ?_⟩
          replace B1 := B1.ext ex
          replace X := X.ext ex
          replace H7 := H7.ext ex
          replace R7 := R7.ext ex
          replace R10 := R10.ext ex
          skip
          have hz15 := X.size
          refine wm_one 15 (by kernel_rfl) ?_; refine om_call rfl Try.func76 rfl rfl rfl (join20_any A7 A14 _ c7 _ c14 _ _ _ R7.bs (by omega) R14.bs (by omega)) rfl ?_
          rintro e w9 ⟨A15, c15, rfl, R15, ex⟩
          refine ⟨_, rfl, .inr ex, ?_⟩
          replace B1 := B1.ext ex
          replace X := X.ext ex
          replace R7 := R7.ext ex
          replace R14 := R14.ext ex
          replace R15 := R15.lower hz15
          refine wm_y 16 rfl (by kernel_rfl) (y_assign rfl) rfl ?_
          refine wm_done (by kernel_rfl) ?_
          refine wq_nop ?_
          exact wq_join _ ⟨A15, _, c15, rfl, X, R15.congr rfl (by unfold preB; simp)⟩ ⟨rfl, rfl, trivial⟩
      · skip
        refine om_ef rfl (ef_lit (z := .int .u8 0) Try.underlying22 (by kernel_rfl) rfl rfl rfl rfl rfl) rfl ?_
        rintro _ w4 ⟨g4, rfl, B4, hg4, ex⟩
        refine ⟨.inr ex, ?_⟩
        replace B1 := B1.ext ex
        replace X := X.ext ex
        replace H7 := H7.ext ex
        have H4 := bs_blk' (xs := [(1 : UInt8)]) (B4.congr (by rfl)) rfl
        refine wm_one 2 (by kernel_rfl) ?_; refine om_call rfl Try.func82 rfl rfl rfl (vec20_any gr.A gr.n gr.c _ _ (Bs.ext D (E.ext X)) (by omega)) rfl ?_
        rintro e w2 ⟨A4, k4', c4', rfl, R4, hk4, ex⟩
        refine ⟨_, rfl, .inr ex, ?_⟩
        replace B1 := B1.ext ex
        replace X := X.ext ex
        replace H7 := H7.ext ex
        replace H4 := H4.ext ex
        have hl4 := lsz_le gr.n
        refine wm_one 5 (by kernel_rfl) ?_; refine om_call rfl Try.func97 rfl rfl rfl (refNum_any 8 m.epoch _ (by omega) a1) rfl ?_
        rintro e w3 ⟨A5, c5', rfl, R5, ex⟩
        refine ⟨_, rfl, .inr ex, ?_⟩
        replace B1 := B1.ext ex
        replace X := X.ext ex
        replace H7 := H7.ext ex
        replace H4 := H4.ext ex
        replace R4 := R4.ext ex
        skip
        refine wm_one 7 (by kernel_rfl) ?_; refine om_call rfl Try.func81 rfl rfl rfl (three20_any A4 A5 _ k4' c4' 8 c5' 1 1 _ _ _ _ R4.bs (by omega) R5.bs (by omega) H4 (by omega)) rfl ?_
        rintro e w5 ⟨A7, c7, rfl, R7, ex⟩
        refine ⟨_, rfl, .inr ex, ?_⟩
        replace B1 := B1.ext ex
        replace X := X.ext ex
        replace H7 := H7.ext ex
        replace H4 := H4.ext ex
        replace R4 := R4.ext ex
        replace R5 := R5.ext ex
        skip
        refine wm_one 10 (by kernel_rfl) ?_; refine om_call rfl Try.func78 rfl rfl rfl (four20_any m.frm _) rfl ?_
        rintro e w6 ⟨A10, c10, rfl, R10, ex⟩
        refine ⟨_, rfl, .inr ex, ?_⟩
        replace B1 := B1.ext ex
        replace X := X.ext ex
        replace H7 := H7.ext ex
        replace R7 := R7.ext ex
        rw [e64] at R10
        refine wm_one 14 (by kernel_rfl) ?_; refine om_call rfl Try.func76 rfl rfl rfl (join20_any A10 _ 4 c10 1 1 _ _ _ R10.bs (by omega) H7 (by omega)) rfl ?_
        rintro e w8 ⟨A14, c14, rfl, R14, ex⟩
        refine ⟨_, rfl, .inr ex, ?_⟩
        replace B1 := B1.ext ex
        replace X := X.ext ex
        replace H7 := H7.ext ex
        replace R7 := R7.ext ex
        replace R10 := R10.ext ex
        skip
        have hz15 := X.size
        refine wm_one 15 (by kernel_rfl) ?_; refine om_call rfl Try.func76 rfl rfl rfl (join20_any A7 A14 _ c7 _ c14 _ _ _ R7.bs (by omega) R14.bs (by omega)) rfl ?_
        rintro e w9 ⟨A15, c15, rfl, R15, ex⟩
        refine ⟨_, rfl, .inr ex, ?_⟩
        replace B1 := B1.ext ex
        replace X := X.ext ex
        replace R7 := R7.ext ex
        replace R14 := R14.ext ex
        replace R15 := R15.lower hz15
        refine wm_y 16 rfl (by kernel_rfl) (y_assign rfl) rfl ?_
        refine wm_done (by kernel_rfl) ?_
        refine wq_nop ?_
        exact wq_join _ ⟨A15, _, c15, rfl, X, R15.congr rfl (by unfold preB; simp)⟩ ⟨rfl, rfl, trivial⟩
  rintro L wj1 ⟨A, n, k, rfl, X, R⟩
  have B1 := B1o.ext X
  refine wq_then_norm (hK2 ?_)
  refine wc_seq ?_; intro K3 hK3
  refine wc_seq ?_; intro K4 hK4
  have hn := R.bs.1
  rw [List.length_append, List.length_singleton] at hn
  refine wc_region ?_
  refine wl_y (y_fieldAddr (o := 3) (s := 1) (off := 0) (o' := 3) rfl Try.underlying48 rfl (by kernel_rfl) rfl rfl) rfl ?_
  refine wl_y (y_load1 rfl Try.underlying5 rfl (B1.get (i := 3) rfl)) rfl ?_
  refine wl_yask (y_eql rfl rfl) rfl (fun kk => ?_) (fun kk => ?_)
  · skip
    refine wl_nil ?_
    refine wq_then_norm (hK4 ?_)
    refine wc_true rfl rfl ?_
    refine wc_seq ?_; intro K5 hK5
    have okp : okProp m.prop := k5.elim (fun h => h.2.1) (fun h => by omega)
    have hpb := rpropB_ok okp
    have hpl2 := rpropB_sm hs.2.1
    refine wc_region ?_
    refine wl_y (y_move rfl) rfl ?_
    refine wl_y (y_fieldAddr (o := 4) (s := 16) (off := 0) (o' := 4) rfl Try.underlying48 rfl (by kernel_rfl) rfl rfl) rfl ?_
    refine wl_y (y_loadx (o := 4) (s := 16) rfl Try.underlying28 rfl (by kernel_rfl) B1 rfl) rfl ?_
    refine wl_call Try.func17 rfl rfl rfl (rpropBytes_any _ (F.ext (E.ext X)) hs.2.1) rfl ?_
    rintro e w9 ⟨A9, k9, c9, rfl, R9, ex⟩
    refine ⟨_, rfl, ?_⟩
    replace X := X.ext ex
    replace R := R.ext ex
    replace B1 := B1.ext ex
    have hk9 := R9.bs.1
    have hz4 := (E.ext X).size
    refine wl_call Try.func76 rfl rfl rfl (join20_any A A9 n k k9 c9 _ _ _ R.bs (by omega) R9.bs (by omega)) rfl ?_
    rintro e w10 ⟨A10, c10, rfl, R10, ex⟩
    refine ⟨_, rfl, ?_⟩
    replace X := X.ext ex
    replace R := R.ext ex
    replace B1 := B1.ext ex
    replace R9 := R9.ext ex
    skip
    refine wl_y (y_assign rfl) rfl ?_
    refine wl_nil ?_
    refine wq_then_norm (hK5 ?_)
    refine wc_ret ?_
    refine wq_then_ret ?_
    refine hret rfl ?_
    exact ⟨A10, _, c10, rfl, (R10.lower hz4).congr rfl (by unfold framB contB; rw [if_pos (by omega), hpb]), E.ext X⟩
  · skip
    refine wl_nil ?_
    refine wq_then_norm (hK4 ?_)
    refine wc_false rfl rfl ?_
    refine wc_skip ?_
    refine wq_then_norm (hK3 ?_)
    refine wc_seq ?_; intro K6 hK6
    have okc : okCom m.com := k5.elim (fun h => by omega) (fun h => h.2.2.1)
    have hpb := comB_eq okc
    have hpl2 := comB_sm hs.2.2.1
    refine wc_region ?_
    refine wl_y (y_move rfl) rfl ?_
    refine wl_y (y_fieldAddr (o := 20) (s := 9) (off := 0) (o' := 20) rfl Try.underlying48 rfl (by kernel_rfl) rfl rfl) rfl ?_
    refine wl_y (y_loadx (o := 20) (s := 9) rfl Try.underlying34 rfl (by kernel_rfl) B1 rfl) rfl ?_
    refine wl_call Try.func19 rfl rfl rfl (rcommit_any _ (J.ext (E.ext X)) hs.2.2.1) rfl ?_
    rintro e w9 ⟨A9, k9, c9, rfl, R9, ex⟩
    refine ⟨_, rfl, ?_⟩
    replace X := X.ext ex
    replace R := R.ext ex
    replace B1 := B1.ext ex
    have hk9 := R9.bs.1
    have hz4 := (E.ext X).size
    refine wl_call Try.func76 rfl rfl rfl (join20_any A A9 n k k9 c9 _ _ _ R.bs (by omega) R9.bs (by omega)) rfl ?_
    rintro e w10 ⟨A10, c10, rfl, R10, ex⟩
    refine ⟨_, rfl, ?_⟩
    replace X := X.ext ex
    replace R := R.ext ex
    replace B1 := B1.ext ex
    replace R9 := R9.ext ex
    skip
    refine wl_y (y_assign rfl) rfl ?_
    refine wl_nil ?_
    refine wq_then_norm (hK6 ?_)
    refine wc_ret ?_
    refine hret rfl ?_
    exact ⟨A10, _, c10, rfl, (R10.lower hz4).congr rfl (by unfold framB contB; rw [if_neg (by omega), hpb]), E.ext X⟩
theorem rsigned_any (w : World) (H : MsgAt w cs m) (hs : m.Small) :
    Calls Try.prog 99 #[.agg cs] w fun e w' => ∃ A' k c', e = .returned (.slice A' k c') ∧ Row w' w.heap.size 5 A' k c' ((sealB m).map bv) ∧ k ≤ 208 ∧ Ext w w' := by
  obtain ⟨gr, i, h0, h1, h2, s, h4, h5, g, l0, l1, l2, t, l4, l5, it, c0, c1, c2, q, c4, c5, ct, sg, tg, mb, rfl, a1, a2, a3, D, F, J, S, T, M⟩ := H
  have f4 := hs.2.2.2.1; have f5 := hs.2.2.2.2.1
  have n2 := S.1; have n3 := T.1
  have E := Ext.refl w
  refine vc_enter1 16 Try.func99 rfl rfl rfl rfl ?_
  intro Q hret
  refine wc_seq ?_; intro K1 hK1
  refine wc_region ?_
  refine wl_ef (ef_box rfl rfl) rfl ?_
  rintro _ wB1 ⟨gB1, rfl, B1, hgB1, ex⟩
  have lB1 := B1.lt; have zB1 := ex.size
  replace E := E.ext ex
  refine wl_y (y_assign rfl) rfl ?_
  refine wl_nil ?_
  refine wq_then_norm (hK1 ?_)
  refine wc_seq ?_; intro K2 hK2
  refine wc_seq ?_; intro K3 hK3
  refine wc_region ?_
  refine wl_y (y_fieldAddr (o := 3) (s := 1) (off := 0) (o' := 3) rfl Try.underlying48 rfl (by kernel_rfl) rfl rfl) rfl ?_
  refine wl_y (y_load1 rfl Try.underlying5 rfl (B1.get (i := 3) rfl)) rfl ?_
  refine wl_yask (y_eql rfl rfl) rfl (fun kk => ?_) (fun kk => ?_)
  · skip
    refine wl_nil ?_
    refine wq_then_norm (hK3 ?_)
    refine wc_true rfl rfl ?_
    refine wc_seq ?_; intro K4 hK4
    refine wc_draw (by kernel_rfl) 8 rfl ?_; intro wd2 ex hd2
    replace E := E.ext ex
    replace B1 := B1.ext ex
    refine wm_y 0 rfl (by kernel_rfl) (y_fieldAddr (o := 29) (s := 1) (off := 0) (o' := 29) rfl Try.underlying48 rfl (by kernel_rfl) rfl rfl) rfl ?_
    refine wm_y 1 rfl (by kernel_rfl) (y_load1 rfl Try.underlying22 rfl (B1.get (i := 29) rfl)) rfl ?_
    refine wm_y 3 rfl (by kernel_rfl) (y_fieldAddr (o := 30) (s := 1) (off := 0) (o' := 30) rfl Try.underlying48 rfl (by kernel_rfl) rfl rfl) rfl ?_
    refine wm_y 4 rfl (by kernel_rfl) (y_load1 rfl Try.underlying22 rfl (B1.get (i := 30) rfl)) rfl ?_
    refine wm_one 2 (by kernel_rfl) ?_; refine om_call rfl Try.func82 rfl rfl rfl (vec20_any sg.A sg.n sg.c _ _ (Bs.ext S E) (by omega)) rfl ?_
    rintro e w2 ⟨A2, k2, c2', rfl, R2, hk2, ex⟩
    refine ⟨_, rfl, .inr ex, ?_⟩
    replace E := E.ext ex
    replace B1 := B1.ext ex
    have hl2 := lsz_le sg.n
    refine wm_one 5 (by kernel_rfl) ?_; refine om_call rfl Try.func82 rfl rfl rfl (vec20_any tg.A tg.n tg.c _ _ (Bs.ext T E) (by omega)) rfl ?_
    rintro e w3 ⟨A3, k3, c3, rfl, R3, hk3, ex⟩
    refine ⟨_, rfl, .inr ex, ?_⟩
    replace E := E.ext ex
    replace B1 := B1.ext ex
    replace R2 := R2.ext ex
    have hl3 := lsz_le tg.n
    have hz := E.size
    refine wm_one 6 (by kernel_rfl) ?_; refine om_call rfl Try.func76 rfl rfl rfl (join20_any A2 A3 k2 c2' k3 c3 _ _ _ R2.bs (by omega) R3.bs (by omega)) rfl ?_
    rintro e w4 ⟨A4, c4', rfl, R4, ex⟩
    refine ⟨_, rfl, .inr ex, ?_⟩
    replace E := E.ext ex
    replace B1 := B1.ext ex
    replace R2 := R2.ext ex
    replace R3 := R3.ext ex
    skip
    refine wm_y 7 rfl (by kernel_rfl) (y_assign rfl) rfl ?_
    refine wm_done (by kernel_rfl) ?_
    refine wq_nop ?_
    refine wq_then_norm (hK4 ?_)
    refine wc_ret ?_
    refine wq_then_ret ?_
    refine hret rfl ?_
    exact ⟨A4, _, c4', rfl, (R4.lower hz).congr rfl (by unfold sealB; rw [if_pos (by omega)]), by omega, E⟩
  · skip
    refine wl_nil ?_
    refine wq_then_norm (hK3 ?_)
    refine wc_false rfl rfl ?_
    refine wc_skip ?_
    refine wq_then_norm (hK2 ?_)
    refine wc_seq ?_; intro K5 hK5
    refine wc_region ?_
    refine wl_y (y_fieldAddr (o := 29) (s := 1) (off := 0) (o' := 29) rfl Try.underlying48 rfl (by kernel_rfl) rfl rfl) rfl ?_
    refine wl_y (y_load1 rfl Try.underlying22 rfl (B1.get (i := 29) rfl)) rfl ?_
    have hz := E.size
    refine wl_call Try.func82 rfl rfl rfl (vec20_any sg.A sg.n sg.c _ _ (Bs.ext S E) (by omega)) rfl ?_
    rintro e w2 ⟨A2, k2, c2', rfl, R2, hk2, ex⟩
    refine ⟨_, rfl, ?_⟩
    replace E := E.ext ex
    replace B1 := B1.ext ex
    have hl2 := lsz_le sg.n
    refine wl_y (y_assign rfl) rfl ?_
    refine wl_nil ?_
    refine wq_then_norm (hK5 ?_)
    refine wc_ret ?_
    refine hret rfl ?_
    exact ⟨A2, k2, c2', rfl, (R2.lower hz).congr rfl (by unfold sealB; rw [if_neg (by omega), List.append_nil]), by omega, E⟩
theorem rBytes_any (w : World) (H : MsgAt w cs m) (hs : m.Small) (ok : okMsg m) :
    Calls Try.prog 32 #[.agg cs] w fun e w' => ∃ A' k c', e = .returned (.slice A' k c') ∧ Bs w' A' k (messB m) ∧ k ≤ 300000 ∧ Ext w w' := by
  have HM := H
  have hl := framB_sm ok hs
  obtain ⟨gr, i, h0, h1, h2, s, h4, h5, g, l0, l1, l2, t, l4, l5, it, c0, c1, c2, q, c4, c5, ct, sg, tg, mb, rfl, a1, a2, a3, D, F, J, S, T, M⟩ := H
  have n4 := M.1; have f6 := hs.2.2.2.2.2
  have E := Ext.refl w
  refine vc_enter1 15 Try.func32 rfl rfl rfl rfl ?_
  intro Q hret
  refine wc_seq ?_; intro K1 hK1
  refine wc_region ?_
  refine wl_ef (ef_box rfl rfl) rfl ?_
  rintro _ wB1 ⟨gB1, rfl, B1, hgB1, ex⟩
  have lB1 := B1.lt; have zB1 := ex.size
  replace E := E.ext ex
  refine wl_y (y_assign rfl) rfl ?_
  refine wl_nil ?_
  refine wq_then_norm (hK1 ?_)
  refine wc_seq ?_; intro K2 hK2
  refine wc_draw (by kernel_rfl) 13 rfl ?_; intro wd1 ex hd1
  replace E := E.ext ex
  replace B1 := B1.ext ex
  refine wm_y 2 rfl (by kernel_rfl) (y_loadx (o := 0) (s := 32) rfl Try.underlying48 rfl (by kernel_rfl) B1 rfl) rfl ?_
  refine wm_y 5 rfl (by kernel_rfl) (y_loadx (o := 0) (s := 32) rfl Try.underlying48 rfl (by kernel_rfl) B1 rfl) rfl ?_
  refine wm_y 7 rfl (by kernel_rfl) (y_fieldAddr (o := 31) (s := 1) (off := 0) (o' := 31) rfl Try.underlying48 rfl (by kernel_rfl) rfl rfl) rfl ?_
  refine wm_y 8 rfl (by kernel_rfl) (y_load1 rfl Try.underlying22 rfl (B1.get (i := 31) rfl)) rfl ?_
  refine wm_one 0 (by kernel_rfl) ?_; refine om_call rfl Try.func96 rfl rfl rfl (two20_any 1 _ (by omega)) rfl ?_
  rintro e w2 ⟨A2, c2', rfl, R2, ex⟩
  refine ⟨_, rfl, .inr ex, ?_⟩
  replace E := E.ext ex
  replace B1 := B1.ext ex
  skip
  refine wm_one 1 (by kernel_rfl) ?_; refine om_call rfl Try.func96 rfl rfl rfl (two20_any 1 _ (by omega)) rfl ?_
  rintro e w3 ⟨A3, c3, rfl, R3, ex⟩
  refine ⟨_, rfl, .inr ex, ?_⟩
  replace E := E.ext ex
  replace B1 := B1.ext ex
  replace R2 := R2.ext ex
  skip
  refine wm_one 3 (by kernel_rfl) ?_; refine om_call rfl Try.func98 rfl rfl rfl (rFramed_any _ (HM.ext E) hs ok) rfl ?_
  rintro e w4 ⟨A4, k4, c4', rfl, R4, ex⟩
  refine ⟨_, rfl, .inr ex, ?_⟩
  replace E := E.ext ex
  replace B1 := B1.ext ex
  replace R2 := R2.ext ex
  replace R3 := R3.ext ex
  have hk4 := R4.bs.1
  refine wm_one 4 (by kernel_rfl) ?_; refine om_call rfl Try.func81 rfl rfl rfl (three20_any A2 A3 A4 2 c2' 2 c3 k4 c4' _ _ _ _ R2.bs (by omega) R3.bs (by omega) R4.bs (by omega)) rfl ?_
  rintro e w5 ⟨A5, c5', rfl, R5, ex⟩
  refine ⟨_, rfl, .inr ex, ?_⟩
  replace E := E.ext ex
  replace B1 := B1.ext ex
  replace R2 := R2.ext ex
  replace R3 := R3.ext ex
  replace R4 := R4.ext ex
  skip
  refine wm_one 6 (by kernel_rfl) ?_; refine om_call rfl Try.func99 rfl rfl rfl (rsigned_any _ (HM.ext E) hs) rfl ?_
  rintro e w6 ⟨A6, k6, c6, rfl, R6, hk6, ex⟩
  refine ⟨_, rfl, .inr ex, ?_⟩
  replace E := E.ext ex
  replace B1 := B1.ext ex
  replace R2 := R2.ext ex
  replace R3 := R3.ext ex
  replace R4 := R4.ext ex
  replace R5 := R5.ext ex
  skip
  refine wm_one 9 (by kernel_rfl) ?_; refine om_call rfl Try.func82 rfl rfl rfl (vec20_any mb.A mb.n mb.c _ _ (Bs.ext M E) (by omega)) rfl ?_
  rintro e w7 ⟨A7, k7, c7, rfl, R7, hk7, ex⟩
  refine ⟨_, rfl, .inr ex, ?_⟩
  replace E := E.ext ex
  replace B1 := B1.ext ex
  replace R2 := R2.ext ex
  replace R3 := R3.ext ex
  replace R4 := R4.ext ex
  replace R5 := R5.ext ex
  replace R6 := R6.ext ex
  have hl7 := lsz_le mb.n
  refine wm_one 10 (by kernel_rfl) ?_; refine om_call rfl Try.func76 rfl rfl rfl (join20_any A6 A7 k6 c6 k7 c7 _ _ _ R6.bs (by omega) R7.bs (by omega)) rfl ?_
  rintro e w8 ⟨A8, c8, rfl, R8, ex⟩
  refine ⟨_, rfl, .inr ex, ?_⟩
  replace E := E.ext ex
  replace B1 := B1.ext ex
  replace R2 := R2.ext ex
  replace R3 := R3.ext ex
  replace R4 := R4.ext ex
  replace R5 := R5.ext ex
  replace R6 := R6.ext ex
  replace R7 := R7.ext ex
  skip
  refine wm_one 11 (by kernel_rfl) ?_; refine om_call rfl Try.func76 rfl rfl rfl (join20_any A5 A8 _ c5' _ c8 _ _ _ R5.bs (by omega) R8.bs (by omega)) rfl ?_
  rintro e w9 ⟨A9, c9, rfl, R9, ex⟩
  refine ⟨_, rfl, .inr ex, ?_⟩
  replace E := E.ext ex
  replace B1 := B1.ext ex
  replace R2 := R2.ext ex
  replace R3 := R3.ext ex
  replace R4 := R4.ext ex
  replace R5 := R5.ext ex
  replace R6 := R6.ext ex
  replace R7 := R7.ext ex
  replace R8 := R8.ext ex
  skip
  refine wm_y 12 rfl (by kernel_rfl) (y_assign rfl) rfl ?_
  refine wm_done (by kernel_rfl) ?_
  refine wq_nop ?_
  refine wq_then_norm (hK2 ?_)
  refine wc_ret ?_
  refine hret rfl ?_
  exact ⟨A9, _, c9, rfl, (R9.congr rfl (by unfold messB headB; simp only [List.append_assoc]; rfl)).bs, by omega, E⟩
theorem rSigned_any (w : World) (H : MsgAt w cs m) (K : CtxAt w ds c) (hs : m.Small) (hc : c.Small) (ok : okMsg m) :
    Calls Try.prog 33 #[.agg cs, .agg ds] w fun e w' => ∃ A' k c', e = .returned (.slice A' k c') ∧ Bs w' A' k (signB m c) ∧ k ≤ 300000 ∧ Ext w w' := by
  have HM := H
  have KM := K
  have hl := framB_sm ok hs
  obtain ⟨gr, i, h0, h1, h2, s, h4, h5, g, l0, l1, l2, t, l4, l5, it, c0, c1, c2, q, c4, c5, ct, sg, tg, mb, rfl, _⟩ := H
  obtain ⟨A1, A2, A3, n1, d1, n2, d2, n3, d3, rfl, _⟩ := K
  have E := Ext.refl w
  refine vc_enter1 13 Try.func33 rfl rfl rfl rfl ?_
  intro Q hret
  refine wc_seq ?_; intro K1 hK1
  refine wc_region ?_
  refine wl_ef (ef_box rfl rfl) rfl ?_
  rintro _ wB2 ⟨gB2, rfl, B2, hgB2, ex⟩
  have lB2 := B2.lt; have zB2 := ex.size
  replace E := E.ext ex
  refine wl_ef (ef_box rfl rfl) rfl ?_
  rintro _ wB3 ⟨gB3, rfl, B3, hgB3, ex⟩
  have lB3 := B3.lt; have zB3 := ex.size
  replace E := E.ext ex
  replace B2 := B2.ext ex
  refine wl_y (y_assign rfl) rfl ?_
  refine wl_nil ?_
  refine wq_then_norm (hK1 ?_)
  refine wc_seq ?_; intro K2 hK2
  refine wc_draw (by kernel_rfl) 9 rfl ?_; intro wd1 ex hd1
  replace E := E.ext ex
  replace B2 := B2.ext ex
  replace B3 := B3.ext ex
  refine wm_y 2 rfl (by kernel_rfl) (y_loadx (o := 0) (s := 32) rfl Try.underlying48 rfl (by kernel_rfl) B2 rfl) rfl ?_
  refine wm_y 5 rfl (by kernel_rfl) (y_loadx (o := 0) (s := 4) rfl Try.underlying50 rfl (by kernel_rfl) B3 rfl) rfl ?_
  refine wm_one 0 (by kernel_rfl) ?_; refine om_call rfl Try.func96 rfl rfl rfl (two20_any 1 _ (by omega)) rfl ?_
  rintro e w2 ⟨A4, c2', rfl, R2, ex⟩
  refine ⟨_, rfl, .inr ex, ?_⟩
  replace E := E.ext ex
  replace B2 := B2.ext ex
  replace B3 := B3.ext ex
  skip
  refine wm_one 1 (by kernel_rfl) ?_; refine om_call rfl Try.func96 rfl rfl rfl (two20_any 1 _ (by omega)) rfl ?_
  rintro e w3 ⟨A5, c3, rfl, R3, ex⟩
  refine ⟨_, rfl, .inr ex, ?_⟩
  replace E := E.ext ex
  replace B2 := B2.ext ex
  replace B3 := B3.ext ex
  replace R2 := R2.ext ex
  skip
  refine wm_one 3 (by kernel_rfl) ?_; refine om_call rfl Try.func98 rfl rfl rfl (rFramed_any _ (HM.ext E) hs ok) rfl ?_
  rintro e w4 ⟨A6, k4, c4', rfl, R4, ex⟩
  refine ⟨_, rfl, .inr ex, ?_⟩
  replace E := E.ext ex
  replace B2 := B2.ext ex
  replace B3 := B3.ext ex
  replace R2 := R2.ext ex
  replace R3 := R3.ext ex
  have hk4 := R4.bs.1
  refine wm_one 4 (by kernel_rfl) ?_; refine om_call rfl Try.func81 rfl rfl rfl (three20_any A4 A5 A6 2 c2' 2 c3 k4 c4' _ _ _ _ R2.bs (by omega) R3.bs (by omega) R4.bs (by omega)) rfl ?_
  rintro e w5 ⟨A7, c5', rfl, R5, ex⟩
  refine ⟨_, rfl, .inr ex, ?_⟩
  replace E := E.ext ex
  replace B2 := B2.ext ex
  replace B3 := B3.ext ex
  replace R2 := R2.ext ex
  replace R3 := R3.ext ex
  replace R4 := R4.ext ex
  skip
  refine wm_one 6 (by kernel_rfl) ?_; refine om_call rfl Try.func31 rfl rfl rfl (rctxBytes_any _ _ _ (KM.ext E) hc) rfl ?_
  rintro e w6 ⟨A8, k6, c6, rfl, R6, hk6, ex⟩
  refine ⟨_, rfl, .inr ex, ?_⟩
  replace E := E.ext ex
  replace B2 := B2.ext ex
  replace B3 := B3.ext ex
  replace R2 := R2.ext ex
  replace R3 := R3.ext ex
  replace R4 := R4.ext ex
  replace R5 := R5.ext ex
  skip
  refine wm_one 7 (by kernel_rfl) ?_; refine om_call rfl Try.func76 rfl rfl rfl (join20_any A7 A8 _ c5' _ c6 _ _ _ R5.bs (by omega) R6.bs (by omega)) rfl ?_
  rintro e w9 ⟨A9, c9, rfl, R9, ex⟩
  refine ⟨_, rfl, .inr ex, ?_⟩
  replace E := E.ext ex
  replace B2 := B2.ext ex
  replace B3 := B3.ext ex
  replace R2 := R2.ext ex
  replace R3 := R3.ext ex
  replace R4 := R4.ext ex
  replace R5 := R5.ext ex
  replace R6 := R6.ext ex
  skip
  refine wm_y 8 rfl (by kernel_rfl) (y_assign rfl) rfl ?_
  refine wm_done (by kernel_rfl) ?_
  refine wq_nop ?_
  refine wq_then_norm (hK2 ?_)
  refine wc_ret ?_
  refine hret rfl ?_
  exact ⟨A9, _, c9, rfl, (R9.congr rfl (by unfold signB headB; rfl)).bs, by omega, E⟩
theorem rTagged_any (w : World) (H : MsgAt w cs m) (K : CtxAt w ds c) (hs : m.Small) (hc : c.Small) (ok : okMsg m) :
    Calls Try.prog 34 #[.agg cs, .agg ds] w fun e w' => ∃ A' k c', e = .returned (.slice A' k c') ∧ Bs w' A' k (taggB m c) ∧ k ≤ 310000 ∧ Ext w w' := by
  have HM := H
  have KM := K
  obtain ⟨gr, i, h0, h1, h2, s, h4, h5, g, l0, l1, l2, t, l4, l5, it, c0, c1, c2, q, c4, c5, ct, sg, tg, mb, rfl, _⟩ := H
  obtain ⟨A1, A2, A3, n1, d1, n2, d2, n3, d3, rfl, _⟩ := K
  have E := Ext.refl w
  refine vc_enter1 11 Try.func34 rfl rfl rfl rfl ?_
  intro Q hret
  refine wc_seq ?_; intro K1 hK1
  refine wc_region ?_
  refine wl_ef (ef_box rfl rfl) rfl ?_
  rintro _ wB2 ⟨gB2, rfl, B2, hgB2, ex⟩
  have lB2 := B2.lt; have zB2 := ex.size
  replace E := E.ext ex
  refine wl_ef (ef_box rfl rfl) rfl ?_
  rintro _ wB3 ⟨gB3, rfl, B3, hgB3, ex⟩
  have lB3 := B3.lt; have zB3 := ex.size
  replace E := E.ext ex
  replace B2 := B2.ext ex
  refine wl_y (y_assign rfl) rfl ?_
  refine wl_nil ?_
  refine wq_then_norm (hK1 ?_)
  refine wc_seq ?_; intro K2 hK2
  refine wc_draw (by kernel_rfl) 7 rfl ?_; intro wd1 ex hd1
  replace E := E.ext ex
  replace B2 := B2.ext ex
  replace B3 := B3.ext ex
  refine wm_y 0 rfl (by kernel_rfl) (y_loadx (o := 0) (s := 32) rfl Try.underlying48 rfl (by kernel_rfl) B2 rfl) rfl ?_
  refine wm_y 1 rfl (by kernel_rfl) (y_loadx (o := 0) (s := 4) rfl Try.underlying50 rfl (by kernel_rfl) B3 rfl) rfl ?_
  refine wm_y 3 rfl (by kernel_rfl) (y_loadx (o := 0) (s := 32) rfl Try.underlying48 rfl (by kernel_rfl) B2 rfl) rfl ?_
  refine wm_one 2 (by kernel_rfl) ?_; refine om_call rfl Try.func33 rfl rfl rfl (rSigned_any _ (HM.ext E) (KM.ext E) hs hc ok) rfl ?_
  rintro e w4 ⟨A6, k4, c4', rfl, H4, hk4, ex⟩
  refine ⟨_, rfl, .inr ex, ?_⟩
  replace E := E.ext ex
  replace B2 := B2.ext ex
  replace B3 := B3.ext ex
  skip
  refine wm_one 4 (by kernel_rfl) ?_; refine om_call rfl Try.func99 rfl rfl rfl (rsigned_any _ (HM.ext E) hs) rfl ?_
  rintro e w6 ⟨A8, k6, c6, rfl, R6, hk6, ex⟩
  refine ⟨_, rfl, .inr ex, ?_⟩
  replace E := E.ext ex
  replace B2 := B2.ext ex
  replace B3 := B3.ext ex
  replace H4 := H4.ext ex
  skip
  refine wm_one 5 (by kernel_rfl) ?_; refine om_call rfl Try.func76 rfl rfl rfl (join20_any A6 A8 _ c4' _ c6 _ _ _ H4 (by omega) R6.bs (by omega)) rfl ?_
  rintro e w9 ⟨A9, c9, rfl, R9, ex⟩
  refine ⟨_, rfl, .inr ex, ?_⟩
  replace E := E.ext ex
  replace B2 := B2.ext ex
  replace B3 := B3.ext ex
  replace H4 := H4.ext ex
  replace R6 := R6.ext ex
  skip
  refine wm_y 6 rfl (by kernel_rfl) (y_assign rfl) rfl ?_
  refine wm_done (by kernel_rfl) ?_
  refine wq_nop ?_
  refine wq_then_norm (hK2 ?_)
  refine wc_ret ?_
  refine hret rfl ?_
  exact ⟨A9, _, c9, rfl, R9.bs, by omega, E⟩
theorem rConfirmed_any (w : World) (H : MsgAt w cs m) (hs : m.Small) (ok : okMsg m) :
    Calls Try.prog 35 #[.agg cs] w fun e w' => ∃ A' k c', e = .returned (.slice A' k c') ∧ Bs w' A' k (confB m) ∧ k ≤ 300000 ∧ Ext w w' := by
  have HM := H
  have hl := framB_sm ok hs
  obtain ⟨gr, i, h0, h1, h2, s, h4, h5, g, l0, l1, l2, t, l4, l5, it, c0, c1, c2, q, c4, c5, ct, sg, tg, mb, rfl, a1, a2, a3, D, F, J, S, T, M⟩ := H
  have n4 := S.1; have f6 := hs.2.2.2.1
  have E := Ext.refl w
  refine vc_enter1 10 Try.func35 rfl rfl rfl rfl ?_
  intro Q hret
  refine wc_seq ?_; intro K1 hK1
  refine wc_region ?_
  refine wl_ef (ef_box rfl rfl) rfl ?_
  rintro _ wB1 ⟨gB1, rfl, B1, hgB1, ex⟩
  have lB1 := B1.lt; have zB1 := ex.size
  replace E := E.ext ex
  refine wl_y (y_assign rfl) rfl ?_
  refine wl_nil ?_
  refine wq_then_norm (hK1 ?_)
  refine wc_seq ?_; intro K2 hK2
  refine wc_draw (by kernel_rfl) 8 rfl ?_; intro wd1 ex hd1
  replace E := E.ext ex
  replace B1 := B1.ext ex
  refine wm_y 1 rfl (by kernel_rfl) (y_loadx (o := 0) (s := 32) rfl Try.underlying48 rfl (by kernel_rfl) B1 rfl) rfl ?_
  refine wm_y 3 rfl (by kernel_rfl) (y_fieldAddr (o := 29) (s := 1) (off := 0) (o' := 29) rfl Try.underlying48 rfl (by kernel_rfl) rfl rfl) rfl ?_
  refine wm_y 4 rfl (by kernel_rfl) (y_load1 rfl Try.underlying22 rfl (B1.get (i := 29) rfl)) rfl ?_
  refine wm_one 0 (by kernel_rfl) ?_; refine om_call rfl Try.func96 rfl rfl rfl (two20_any 1 _ (by omega)) rfl ?_
  rintro e w2 ⟨A2, c2', rfl, R2, ex⟩
  refine ⟨_, rfl, .inr ex, ?_⟩
  replace E := E.ext ex
  replace B1 := B1.ext ex
  skip
  refine wm_one 2 (by kernel_rfl) ?_; refine om_call rfl Try.func98 rfl rfl rfl (rFramed_any _ (HM.ext E) hs ok) rfl ?_
  rintro e w4 ⟨A4, k4, c4', rfl, R4, ex⟩
  refine ⟨_, rfl, .inr ex, ?_⟩
  replace E := E.ext ex
  replace B1 := B1.ext ex
  replace R2 := R2.ext ex
  have hk4 := R4.bs.1
  refine wm_one 5 (by kernel_rfl) ?_; refine om_call rfl Try.func82 rfl rfl rfl (vec20_any sg.A sg.n sg.c _ _ (Bs.ext S E) (by omega)) rfl ?_
  rintro e w7 ⟨A7, k7, c7, rfl, R7, hk7, ex⟩
  refine ⟨_, rfl, .inr ex, ?_⟩
  replace E := E.ext ex
  replace B1 := B1.ext ex
  replace R2 := R2.ext ex
  replace R4 := R4.ext ex
  have hl7 := lsz_le sg.n
  refine wm_one 6 (by kernel_rfl) ?_; refine om_call rfl Try.func81 rfl rfl rfl (three20_any A2 A4 A7 2 c2' k4 c4' k7 c7 _ _ _ _ R2.bs (by omega) R4.bs (by omega) R7.bs (by omega)) rfl ?_
  rintro e w9 ⟨A9, c9, rfl, R9, ex⟩
  refine ⟨_, rfl, .inr ex, ?_⟩
  replace E := E.ext ex
  replace B1 := B1.ext ex
  replace R2 := R2.ext ex
  replace R4 := R4.ext ex
  replace R7 := R7.ext ex
  skip
  refine wm_y 7 rfl (by kernel_rfl) (y_assign rfl) rfl ?_
  refine wm_done (by kernel_rfl) ?_
  refine wq_nop ?_
  refine wq_then_norm (hK2 ?_)
  refine wc_ret ?_
  refine hret rfl ?_
  exact ⟨A9, _, c9, rfl, R9.bs, by omega, E⟩
end
set_option maxHeartbeats 2000000 in
theorem msgBytes_law (cs : Array Value) (m : Mess) (ds : Array Value) (c : Ctx) (w : World) (H : MsgAt w cs m) (K : CtxAt w ds c) (he : c.ep < 18446744073709551616) :
    Calls Try.prog 5 #[.agg cs, .agg ds] w fun e w' => e = .returned (.bool true) ∧ Below w.heap.size w w' := by
  have HM := H
  have KM := K
  obtain ⟨gr, i, h0, h1, h2, s, h4, h5, g, l0, l1, l2, t, l4, l5, it, c0, c1, c2, q, c4, c5, ct, sg, tg, mb, rfl, _⟩ := H
  obtain ⟨A1, A2, A3, n1, d1, n2, d2, n3, d3, rfl, _⟩ := K
  have E := Ext.refl w
  refine vc_enter1 102 Try.func5 rfl rfl rfl rfl ?_
  intro Q hret
  refine wc_seq ?_; intro K1 hK1
  refine wc_region ?_
  refine wl_ef (ef_box rfl rfl) rfl ?_
  rintro _ wB2 ⟨gB2, rfl, B2, hgB2, ex⟩
  have lB2 := B2.lt; have zB2 := ex.size
  replace E := E.ext ex
  refine wl_ef (ef_box rfl rfl) rfl ?_
  rintro _ wB3 ⟨gB3, rfl, B3, hgB3, ex⟩
  have lB3 := B3.lt; have zB3 := ex.size
  replace E := E.ext ex
  replace B2 := B2.ext ex
  refine wl_y (y_assign rfl) rfl ?_
  refine wl_nil ?_
  refine wq_then_norm (hK1 ?_)
  refine wc_seq ?_; intro K2 hK2
  refine wc_seq ?_; intro K3 hK3
  refine wc_region ?_
  refine wl_call Try.func10 rfl rfl rfl (alive20_any _) rfl ?_
  rintro e w1 ⟨rfl, ex⟩
  refine ⟨_, rfl, ?_⟩
  replace E := E.ext ex
  replace B2 := B2.ext ex
  replace B3 := B3.ext ex
  refine wl_y (y_not rfl) rfl ?_
  refine wl_nil ?_
  refine wq_then_norm (hK3 ?_)
  refine wc_false rfl rfl ?_
  refine wc_skip ?_
  refine wq_then_norm (hK2 ?_)
  refine wc_seq ?_; intro K4 hK4
  refine wc_seq ?_; intro K5 hK5
  refine wc_region ?_
  refine wl_y (y_loadx (o := 0) (s := 32) rfl Try.underlying48 rfl (by kernel_rfl) B2 rfl) rfl ?_
  refine wl_call Try.func20 rfl rfl rfl (smallMsg_any _ (HM.ext E)) rfl ?_
  rintro e w2 ⟨rfl, ex⟩
  refine ⟨_, rfl, ?_⟩
  replace E := E.ext ex
  replace B2 := B2.ext ex
  replace B3 := B3.ext ex
  skip
  refine wl_y (y_not rfl) rfl ?_
  refine wl_yaskb (y_move rfl) rfl (fun q0 => ?_) (fun q0 => ?_)
  · skip
    refine wl_gno 19 rfl rfl rfl rfl ?_
    refine wl_gno 19 rfl rfl rfl rfl ?_
    refine wl_gno 19 rfl rfl rfl rfl ?_
    refine wl_y (y_pickt rfl rfl) rfl ?_
    refine wl_nil ?_
    refine wq_then_norm (hK5 ?_)
    refine wc_true rfl rfl ?_
    refine wc_seq ?_; intro K6 hK6
    refine wc_region ?_
    refine wl_y (y_assign rfl) rfl ?_
    refine wl_nil ?_
    refine wq_then_norm (hK6 ?_)
    refine wc_ret ?_
    refine wq_then_ret ?_
    refine hret rfl ?_
    exact ⟨rfl, E⟩
  · skip
    refine wl_gy 19 rfl rfl (y_loadx (o := 0) (s := 4) rfl Try.underlying50 rfl (by kernel_rfl) B3 rfl) rfl ?_
    refine wl_gcall 19 rfl rfl Try.func21 rfl rfl rfl (smallCtx20_any _ (KM.ext E) he) rfl ?_
    rintro e w3 ⟨rfl, ex⟩
    refine ⟨_, rfl, ?_⟩
    replace E := E.ext ex
    replace B2 := B2.ext ex
    replace B3 := B3.ext ex
    skip
    refine wl_gy 19 rfl rfl (y_not rfl) rfl ?_
    refine wl_y (y_pickf rfl rfl) rfl ?_
    refine wl_nil ?_
    refine wq_then_norm (hK5 ?_)
    refine wc_cond rfl (fun hc2 => ?_) (fun hc2 => ?_)
    · skip
      refine wc_seq ?_; intro K7 hK7
      refine wc_region ?_
      refine wl_y (y_assign rfl) rfl ?_
      refine wl_nil ?_
      refine wq_then_norm (hK7 ?_)
      refine wc_ret ?_
      refine wq_then_ret ?_
      refine hret rfl ?_
      exact ⟨rfl, E⟩
    · skip
      refine wc_skip ?_
      refine wq_then_norm (hK4 ?_)
      refine wc_seq ?_; intro K8 hK8
      have hs : m.Small := by simpa using q0
      have hc : c.Small := by simpa using hc2
      have hf := hs.fit
      have hcl := ctxBytes_length hc
      refine wc_region ?_
      refine wl_y (y_loadx (o := 0) (s := 32) rfl Try.underlying48 rfl (by kernel_rfl) B2 rfl) rfl ?_
      refine wl_call Try.func24 rfl rfl rfl (rRight_any _ (HM.ext E) hf) rfl ?_
      rintro e w4 ⟨rfl, ex⟩
      refine ⟨_, rfl, ?_⟩
      replace E := E.ext ex
      replace B2 := B2.ext ex
      replace B3 := B3.ext ex
      skip
      refine wl_y (y_assign rfl) rfl ?_
      refine wl_nil ?_
      refine wq_then_norm (hK8 ?_)
      refine wc_seq ?_; intro K9 hK9
      refine wc_region ?_
      refine wl_y (y_loadx (o := 0) (s := 32) rfl Try.underlying48 rfl (by kernel_rfl) B2 rfl) rfl ?_
      refine wl_call Try.func28 rfl rfl rfl (MsgBytes_any _ (HM.ext E) hf) rfl ?_
      rintro e w5 ⟨A6, k6, c6, z6, rfl, T6, ex⟩
      refine ⟨_, rfl, ?_⟩
      replace E := E.ext ex
      replace B2 := B2.ext ex
      replace B3 := B3.ext ex
      replace T6 := T6.1
      refine wl_y (y_move rfl) rfl ?_
      refine wl_y (y_extract rfl rfl) rfl ?_
      refine wl_y (y_extract rfl rfl) rfl ?_
      refine wl_y (y_assign rfl) rfl ?_
      refine wl_y (y_assign rfl) rfl ?_
      refine wl_nil ?_
      refine wq_then_norm (hK9 ?_)
      refine wc_seq ?_; intro K10 hK10
      refine wc_region ?_
      refine wl_y (y_loadx (o := 0) (s := 32) rfl Try.underlying48 rfl (by kernel_rfl) B2 rfl) rfl ?_
      refine wl_y (y_loadx (o := 0) (s := 4) rfl Try.underlying50 rfl (by kernel_rfl) B3 rfl) rfl ?_
      refine wl_call Try.func22 rfl rfl rfl (MsgSigned_any _ (HM.ext E) (KM.ext E) hf hc) rfl ?_
      rintro e w6 ⟨A7, k7, c7, z7, rfl, T7, ex⟩
      refine ⟨_, rfl, ?_⟩
      replace E := E.ext ex
      replace B2 := B2.ext ex
      replace B3 := B3.ext ex
      replace T6 := T6.ext ex
      replace T7 := T7.1
      refine wl_y (y_move rfl) rfl ?_
      refine wl_y (y_extract rfl rfl) rfl ?_
      refine wl_y (y_extract rfl rfl) rfl ?_
      refine wl_y (y_assign rfl) rfl ?_
      refine wl_y (y_assign rfl) rfl ?_
      refine wl_nil ?_
      refine wq_then_norm (hK10 ?_)
      refine wc_seq ?_; intro K11 hK11
      refine wc_region ?_
      refine wl_y (y_loadx (o := 0) (s := 32) rfl Try.underlying48 rfl (by kernel_rfl) B2 rfl) rfl ?_
      refine wl_y (y_loadx (o := 0) (s := 4) rfl Try.underlying50 rfl (by kernel_rfl) B3 rfl) rfl ?_
      refine wl_call Try.func29 rfl rfl rfl (MsgTagged_any _ (HM.ext E) (KM.ext E) hf hc) rfl ?_
      rintro e w7 ⟨A8, k8, c8, z8, rfl, T8, ex⟩
      refine ⟨_, rfl, ?_⟩
      replace E := E.ext ex
      replace B2 := B2.ext ex
      replace B3 := B3.ext ex
      replace T6 := T6.ext ex
      replace T7 := T7.ext ex
      replace T8 := T8.1
      refine wl_y (y_move rfl) rfl ?_
      refine wl_y (y_extract rfl rfl) rfl ?_
      refine wl_y (y_extract rfl rfl) rfl ?_
      refine wl_y (y_assign rfl) rfl ?_
      refine wl_y (y_assign rfl) rfl ?_
      refine wl_nil ?_
      refine wq_then_norm (hK11 ?_)
      refine wc_seq ?_; intro K12 hK12
      refine wc_region ?_
      refine wl_y (y_loadx (o := 0) (s := 32) rfl Try.underlying48 rfl (by kernel_rfl) B2 rfl) rfl ?_
      refine wl_call Try.func23 rfl rfl rfl (MsgConfirmed_any _ (HM.ext E) hf) rfl ?_
      rintro e w8 ⟨A9, k9, c9, z9, rfl, T9, ex⟩
      refine ⟨_, rfl, ?_⟩
      replace E := E.ext ex
      replace B2 := B2.ext ex
      replace B3 := B3.ext ex
      replace T6 := T6.ext ex
      replace T7 := T7.ext ex
      replace T8 := T8.ext ex
      replace T9 := T9.1
      refine wl_y (y_move rfl) rfl ?_
      refine wl_y (y_extract rfl rfl) rfl ?_
      refine wl_y (y_extract rfl rfl) rfl ?_
      refine wl_y (y_assign rfl) rfl ?_
      refine wl_y (y_assign rfl) rfl ?_
      refine wl_nil ?_
      refine wq_then_norm (hK12 ?_)
      refine wc_seq ?_; intro K13 hK13
      refine wc_seq ?_; intro K14 hK14
      refine wc_draw (by kernel_rfl) 6 rfl ?_; intro wd10 ex hd10
      replace E := E.ext ex
      replace B2 := B2.ext ex
      replace B3 := B3.ext ex
      replace T6 := T6.ext ex
      replace T7 := T7.ext ex
      replace T8 := T8.ext ex
      replace T9 := T9.ext ex
      refine wm_y 0 rfl (by kernel_rfl) (y_loadx (o := 0) (s := 4) rfl Try.underlying50 rfl (by kernel_rfl) B3 rfl) rfl ?_
      refine wm_y 2 rfl (by kernel_rfl) (y_loadx (o := 0) (s := 4) rfl Try.underlying50 rfl (by kernel_rfl) B3 rfl) rfl ?_
      refine wm_one 1 (by kernel_rfl) ?_; refine om_call rfl Try.func30 rfl rfl rfl (ctxBytes_any _ _ _ (KM.ext E) hc) rfl ?_
      rintro e w9 ⟨A10, k10, c10, rfl, H10, hk10, ex⟩
      refine ⟨_, rfl, .inr ex, ?_⟩
      replace E := E.ext ex
      replace B2 := B2.ext ex
      replace B3 := B3.ext ex
      replace T6 := T6.ext ex
      replace T7 := T7.ext ex
      replace T8 := T8.ext ex
      replace T9 := T9.ext ex
      skip
      refine wm_one 3 (by kernel_rfl) ?_; refine om_call rfl Try.func31 rfl rfl rfl (rctxBytes_any _ _ _ (KM.ext E) hc) rfl ?_
      rintro e w10 ⟨A11, k11, c11, rfl, R11, hk11, ex⟩
      refine ⟨_, rfl, .inr ex, ?_⟩
      replace E := E.ext ex
      replace B2 := B2.ext ex
      replace B3 := B3.ext ex
      replace T6 := T6.ext ex
      replace T7 := T7.ext ex
      replace T8 := T8.ext ex
      replace T9 := T9.ext ex
      replace H10 := H10.ext ex
      have H11 := R11.bs
      refine wm_one 4 (by kernel_rfl) ?_; refine om_call rfl Try.func26 rfl rfl rfl (sm_any H10 H11 (by omega) (by omega)) rfl ?_
      rintro e w11 ⟨rfl, ex⟩
      refine ⟨_, rfl, .inr ex, ?_⟩
      replace E := E.ext ex
      replace B2 := B2.ext ex
      replace B3 := B3.ext ex
      replace T6 := T6.ext ex
      replace T7 := T7.ext ex
      replace T8 := T8.ext ex
      replace T9 := T9.ext ex
      replace H10 := H10.ext ex
      replace H11 := H11.ext ex
      rw [decide_eq_true rfl]
      refine wm_y 5 rfl (by kernel_rfl) (y_not rfl) rfl ?_
      refine wm_done (by kernel_rfl) ?_
      refine wq_nop ?_
      refine wq_then_norm (hK14 ?_)
      refine wc_false rfl rfl ?_
      refine wc_skip ?_
      refine wq_then_norm (hK13 ?_)
      refine wc_seq ?_; intro K15 hK15
      refine wc_seq ?_; intro K16 hK16
      refine wc_region ?_
      refine wl_yask (y_move rfl) rfl (fun ok => ?_) (fun ok => ?_)
      · skip
        refine wl_y (y_not rfl) rfl ?_
        refine wl_nil ?_
        refine wq_then_norm (hK16 ?_)
        refine wc_false rfl rfl ?_
        refine wc_skip ?_
        refine wq_then_norm (hK15 ?_)
        refine wc_seq ?_; intro K17 hK17
        refine wc_region ?_
        refine wl_y (y_move rfl) rfl ?_
        refine wl_y (y_move rfl) rfl ?_
        refine wl_y (y_loadx (o := 0) (s := 32) rfl Try.underlying48 rfl (by kernel_rfl) B2 rfl) rfl ?_
        refine wl_call Try.func32 rfl rfl rfl (rBytes_any _ (HM.ext E) hs ok) rfl ?_
        rintro e w12 ⟨A12, k12, c12, rfl, H12, hk12, ex⟩
        refine ⟨_, rfl, ?_⟩
        replace E := E.ext ex
        replace B2 := B2.ext ex
        replace B3 := B3.ext ex
        replace T6 := T6.ext ex
        replace T7 := T7.ext ex
        replace T8 := T8.ext ex
        replace T9 := T9.ext ex
        replace H10 := H10.ext ex
        replace H11 := H11.ext ex
        skip
        have j6 := (T6.1 ok).2.1; have m12 := H12.1
        refine wl_call Try.func15 rfl rfl rfl (ltold_t _ (T6.1 ok).1 (T6.1 ok).2 H12 (by omega)) rfl ?_
        rintro e w13 ⟨rfl, ex⟩
        refine ⟨_, rfl, ?_⟩
        replace E := E.ext ex
        replace B2 := B2.ext ex
        replace B3 := B3.ext ex
        replace T6 := T6.ext ex
        replace T7 := T7.ext ex
        replace T8 := T8.ext ex
        replace T9 := T9.ext ex
        replace H10 := H10.ext ex
        replace H11 := H11.ext ex
        refine wl_y (y_move rfl) rfl ?_
        refine wl_gy 79 rfl rfl (y_move rfl) rfl ?_
        refine wl_gy 79 rfl rfl (y_move rfl) rfl ?_
        refine wl_gy 79 rfl rfl (y_loadx (o := 0) (s := 32) rfl Try.underlying48 rfl (by kernel_rfl) B2 rfl) rfl ?_
        refine wl_gy 79 rfl rfl (y_loadx (o := 0) (s := 4) rfl Try.underlying50 rfl (by kernel_rfl) B3 rfl) rfl ?_
        refine wl_gcall 79 rfl rfl Try.func33 rfl rfl rfl (rSigned_any _ (HM.ext E) (KM.ext E) hs hc ok) rfl ?_
        rintro e w14 ⟨A13, k13, c13, rfl, H13, hk13, ex⟩
        refine ⟨_, rfl, ?_⟩
        replace E := E.ext ex
        replace B2 := B2.ext ex
        replace B3 := B3.ext ex
        replace T6 := T6.ext ex
        replace T7 := T7.ext ex
        replace T8 := T8.ext ex
        replace T9 := T9.ext ex
        replace H10 := H10.ext ex
        replace H11 := H11.ext ex
        skip
        have j7 := (T7.1 ok).2.1; have m13 := H13.1
        refine wl_gcall 79 rfl rfl Try.func15 rfl rfl rfl (ltold_t _ (T7.1 ok).1 (T7.1 ok).2 H13 (by omega)) rfl ?_
        rintro e w15 ⟨rfl, ex⟩
        refine ⟨_, rfl, ?_⟩
        replace E := E.ext ex
        replace B2 := B2.ext ex
        replace B3 := B3.ext ex
        replace T6 := T6.ext ex
        replace T7 := T7.ext ex
        replace T8 := T8.ext ex
        replace T9 := T9.ext ex
        replace H10 := H10.ext ex
        replace H11 := H11.ext ex
        refine wl_y (y_pickt rfl rfl) rfl ?_
        refine wl_y (y_move rfl) rfl ?_
        refine wl_gy 87 rfl rfl (y_move rfl) rfl ?_
        refine wl_gy 87 rfl rfl (y_move rfl) rfl ?_
        refine wl_gy 87 rfl rfl (y_loadx (o := 0) (s := 32) rfl Try.underlying48 rfl (by kernel_rfl) B2 rfl) rfl ?_
        refine wl_gy 87 rfl rfl (y_loadx (o := 0) (s := 4) rfl Try.underlying50 rfl (by kernel_rfl) B3 rfl) rfl ?_
        refine wl_gcall 87 rfl rfl Try.func34 rfl rfl rfl (rTagged_any _ (HM.ext E) (KM.ext E) hs hc ok) rfl ?_
        rintro e w16 ⟨A14, k14, c14, rfl, H14, hk14, ex⟩
        refine ⟨_, rfl, ?_⟩
        replace E := E.ext ex
        replace B2 := B2.ext ex
        replace B3 := B3.ext ex
        replace T6 := T6.ext ex
        replace T7 := T7.ext ex
        replace T8 := T8.ext ex
        replace T9 := T9.ext ex
        replace H10 := H10.ext ex
        replace H11 := H11.ext ex
        skip
        have j8 := (T8.1 ok).2.1; have m14 := H14.1
        refine wl_gcall 87 rfl rfl Try.func15 rfl rfl rfl (ltold_t _ (T8.1 ok).1 (T8.1 ok).2 H14 (by omega)) rfl ?_
        rintro e w17 ⟨rfl, ex⟩
        refine ⟨_, rfl, ?_⟩
        replace E := E.ext ex
        replace B2 := B2.ext ex
        replace B3 := B3.ext ex
        replace T6 := T6.ext ex
        replace T7 := T7.ext ex
        replace T8 := T8.ext ex
        replace T9 := T9.ext ex
        replace H10 := H10.ext ex
        replace H11 := H11.ext ex
        refine wl_y (y_pickt rfl rfl) rfl ?_
        refine wl_y (y_move rfl) rfl ?_
        refine wl_gy 95 rfl rfl (y_move rfl) rfl ?_
        refine wl_gy 95 rfl rfl (y_move rfl) rfl ?_
        refine wl_gy 95 rfl rfl (y_loadx (o := 0) (s := 32) rfl Try.underlying48 rfl (by kernel_rfl) B2 rfl) rfl ?_
        refine wl_gcall 95 rfl rfl Try.func35 rfl rfl rfl (rConfirmed_any _ (HM.ext E) hs ok) rfl ?_
        rintro e w18 ⟨A15, k15, c15, rfl, H15, hk15, ex⟩
        refine ⟨_, rfl, ?_⟩
        replace E := E.ext ex
        replace B2 := B2.ext ex
        replace B3 := B3.ext ex
        replace T6 := T6.ext ex
        replace T7 := T7.ext ex
        replace T8 := T8.ext ex
        replace T9 := T9.ext ex
        replace H10 := H10.ext ex
        replace H11 := H11.ext ex
        skip
        have j9 := (T9.1 ok).2.1; have m15 := H15.1
        refine wl_gcall 95 rfl rfl Try.func15 rfl rfl rfl (ltold_t _ (T9.1 ok).1 (T9.1 ok).2 H15 (by omega)) rfl ?_
        rintro e w19 ⟨rfl, ex⟩
        refine ⟨_, rfl, ?_⟩
        replace E := E.ext ex
        replace B2 := B2.ext ex
        replace B3 := B3.ext ex
        replace T6 := T6.ext ex
        replace T7 := T7.ext ex
        replace T8 := T8.ext ex
        replace T9 := T9.ext ex
        replace H10 := H10.ext ex
        replace H11 := H11.ext ex
        refine wl_y (y_pickt rfl rfl) rfl ?_
        refine wl_y (y_assign rfl) rfl ?_
        refine wl_nil ?_
        refine wq_then_norm (hK17 ?_)
        refine wc_ret ?_
        refine hret rfl ?_
        exact ⟨rfl, E⟩
      · skip
        refine wl_y (y_not rfl) rfl ?_
        refine wl_nil ?_
        refine wq_then_norm (hK16 ?_)
        refine wc_true rfl rfl ?_
        refine wc_seq ?_; intro K18 hK18
        have no := ok
        refine wc_region ?_
        refine wl_y (y_move rfl) rfl ?_
        refine wl_y (y_move rfl) rfl ?_
        refine wl_call Try.func15 rfl rfl rfl (ltold_f _ (T6.2 no).1 (T6.2 no).2) rfl ?_
        rintro e w12 ⟨rfl, ex⟩
        refine ⟨_, rfl, ?_⟩
        replace E := E.ext ex
        replace B2 := B2.ext ex
        replace B3 := B3.ext ex
        replace T6 := T6.ext ex
        replace T7 := T7.ext ex
        replace T8 := T8.ext ex
        replace T9 := T9.ext ex
        replace H10 := H10.ext ex
        replace H11 := H11.ext ex
        refine wl_y (y_move rfl) rfl ?_
        refine wl_gy 59 rfl rfl (y_move rfl) rfl ?_
        refine wl_gy 59 rfl rfl (y_move rfl) rfl ?_
        refine wl_gcall 59 rfl rfl Try.func15 rfl rfl rfl (ltold_f _ (T7.2 no).1 (T7.2 no).2) rfl ?_
        rintro e w13 ⟨rfl, ex⟩
        refine ⟨_, rfl, ?_⟩
        replace E := E.ext ex
        replace B2 := B2.ext ex
        replace B3 := B3.ext ex
        replace T6 := T6.ext ex
        replace T7 := T7.ext ex
        replace T8 := T8.ext ex
        replace T9 := T9.ext ex
        replace H10 := H10.ext ex
        replace H11 := H11.ext ex
        refine wl_y (y_pickt rfl rfl) rfl ?_
        refine wl_y (y_move rfl) rfl ?_
        refine wl_gy 64 rfl rfl (y_move rfl) rfl ?_
        refine wl_gy 64 rfl rfl (y_move rfl) rfl ?_
        refine wl_gcall 64 rfl rfl Try.func15 rfl rfl rfl (ltold_f _ (T8.2 no).1 (T8.2 no).2) rfl ?_
        rintro e w14 ⟨rfl, ex⟩
        refine ⟨_, rfl, ?_⟩
        replace E := E.ext ex
        replace B2 := B2.ext ex
        replace B3 := B3.ext ex
        replace T6 := T6.ext ex
        replace T7 := T7.ext ex
        replace T8 := T8.ext ex
        replace T9 := T9.ext ex
        replace H10 := H10.ext ex
        replace H11 := H11.ext ex
        refine wl_y (y_pickt rfl rfl) rfl ?_
        refine wl_y (y_move rfl) rfl ?_
        refine wl_gy 69 rfl rfl (y_move rfl) rfl ?_
        refine wl_gy 69 rfl rfl (y_move rfl) rfl ?_
        refine wl_gcall 69 rfl rfl Try.func15 rfl rfl rfl (ltold_f _ (T9.2 no).1 (T9.2 no).2) rfl ?_
        rintro e w15 ⟨rfl, ex⟩
        refine ⟨_, rfl, ?_⟩
        replace E := E.ext ex
        replace B2 := B2.ext ex
        replace B3 := B3.ext ex
        replace T6 := T6.ext ex
        replace T7 := T7.ext ex
        replace T8 := T8.ext ex
        replace T9 := T9.ext ex
        replace H10 := H10.ext ex
        replace H11 := H11.ext ex
        refine wl_y (y_pickt rfl rfl) rfl ?_
        refine wl_y (y_assign rfl) rfl ?_
        refine wl_nil ?_
        refine wq_then_norm (hK18 ?_)
        refine wc_ret ?_
        refine wq_then_ret ?_
        refine hret rfl ?_
        exact ⟨rfl, E⟩
end Go.Proofs.Ytpgalbgonmclaaa
