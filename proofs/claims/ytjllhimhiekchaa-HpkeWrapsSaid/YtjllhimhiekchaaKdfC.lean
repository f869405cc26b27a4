/- kdf's and the reference's Label, Secret, Extract, Ref: what each hands back; the chapter's example. Lengths up to 2^20. -/
import Derived.Test.YtjllhimhiekchaaKdfB
namespace Go.Proofs.Ytjllhimhiekchaa
open Go.RowKit
attribute [local irreducible] Y Ef WL WC WK WQ WM OpM
theorem extract_any (A B : Option Addr) (n c m d : Nat) (xs ys : List UInt8) (w : World) (HA : Bs w A n xs) (hn : n ≤ 35184372088832) (HB : Bs w B m ys) (hm : m ≤ 35184372088000) :
    Calls Try.prog 48 #[.slice A n c, .slice B m d] w fun e w' => ∃ A' c', e = .returned (.slice A' 32 c') ∧ Bs w' A' 32 (Mac.tag xs ys) ∧ Ext w w' := by
  have E := Ext.refl w
  refine vc_enter1 9 Try.func48 rfl rfl rfl rfl ?_
  intro Q hret
  refine wc_seq ?_; intro K1 hK1
  refine wc_region ?_
  refine wl_y (y_assign rfl) rfl ?_
  refine wl_nil ?_
  refine wq_then_norm (hK1 ?_)
  refine wc_seq ?_; intro K2 hK2
  refine wc_region ?_
  refine wl_y (y_move rfl) rfl ?_
  refine wl_y (y_move rfl) rfl ?_
  refine wl_ef (ef_lit (z := .slice none 0 0) Try.underlying79 (by kernel_rfl) rfl rfl rfl rfl rfl) rfl ?_
  rintro _ w1 ⟨g1, rfl, B1, hg1, ex⟩
  replace HA := HA.ext ex
  replace HB := HB.ext ex
  replace E := E.ext ex
  have S1 := bss_one B1 HB
  refine wl_call Try.func69 rfl rfl rfl (tag_any A _ n c 1 1 xs _ _ HA hn S1 (by omega) (by simp [HB.1]; omega)) rfl ?_
  rintro e w2 ⟨g2, rfl, hg2, B2, ex⟩
  refine ⟨_, rfl, ?_⟩
  replace HA := HA.ext ex
  replace HB := HB.ext ex
  replace E := E.ext ex
  have H2 := bs_blk' B2 (Mac.tag_length _ _)
  refine wl_y (y_assign rfl) rfl ?_
  refine wl_nil ?_
  refine wq_then_norm (hK2 ?_)
  refine wc_ret ?_
  refine hret rfl ?_
  exact ⟨_, _, rfl, by simpa using H2, E⟩
end Go.Proofs.Ytjllhimhiekchaa
