/- sha's running digest: New, Len, and what a nil one answers. -/
import Derived.Test.YtopbahbhldgbbaaHashA
import Derived.Test.YtopbahbhldgbbaaDigest
namespace Go.Proofs.Ytopbahbhldgbbaa
open Go.RowKit
attribute [local irreducible] Y Ef WL WC WK WQ WM OpM WN WF OpN
theorem hnew_any (w : World) : Calls Try.prog 11 #[] w fun e w' => ∃ g, e = .returned (.pointer (some ⟨g, 0, none⟩)) ∧ w.heap.size ≤ g ∧ Blk w' g 70 (hashV Sha.IV none 0 0 0) ∧ Ext w w' := by
  have E := Ext.refl w
  refine vc_enter1 4 Try.func11 rfl rfl rfl rfl ?_
  intro Q hret
  refine wc_seq ?_; intro K1 hK1
  refine wc_region ?_
  refine wl_y (y_assign rfl) rfl ?_
  refine wl_nil ?_
  refine wq_then_norm (hK1 ?_)
  refine wc_seq ?_; intro K2 hK2
  refine wc_region ?_
  refine wl_call Try.func42 rfl rfl rfl (begin_any _) rfl ?_
  rintro e w1 ⟨rfl, ex⟩
  refine ⟨_, rfl, ?_⟩
  replace E := E.ext ex
  skip
  refine wl_y (y_build rfl (cells := hashV Sha.IV none 0 0 0) (by kernel_rfl)) rfl ?_
  have hs := E.size
  refine wl_ef (ef_box (cs := hashV Sha.IV none 0 0 0) rfl rfl) rfl ?_
  rintro _ w2 ⟨g, rfl, B, hg, ex⟩
  replace E := E.ext ex
  skip
  refine wl_y (y_assign rfl) rfl ?_
  refine wl_nil ?_
  refine wq_then_norm (hK2 ?_)
  refine wc_ret ?_
  refine hret rfl ?_
  exact ⟨g, rfl, by omega, B, E⟩
theorem hlen_any (gh : Nat) (s : Sha.S8) (A : Option Addr) (m c N : Nat) (w : World) (H : Blk w gh 70 (hashV s A m c N)) :
    Calls Try.prog 16 #[.pointer (some ⟨gh, 0, none⟩)] w fun e w' => e = .returned (.int .i64 (N : Int)) ∧ Ext w w' := by
  have E := Ext.refl w
  refine vc_enter1 9 Try.func16 rfl rfl rfl rfl ?_
  intro Q hret
  refine wc_seq ?_; intro K1 hK1
  refine wc_region ?_
  refine wl_y (y_assign rfl) rfl ?_
  refine wl_nil ?_
  refine wq_then_norm (hK1 ?_)
  refine wc_seq ?_; intro K2 hK2
  refine wc_seq ?_; intro K3 hK3
  refine wc_region ?_
  refine wl_y (y_move rfl) rfl ?_
  refine wl_y (Y.as (y_eqlp rfl rfl Try.underlying25) (congrArg Value.bool (show _ = false from rfl))) rfl ?_
  refine wl_nil ?_
  refine wq_then_norm (hK3 ?_)
  refine wc_false rfl rfl ?_
  refine wc_skip ?_
  refine wq_then_norm (hK2 ?_)
  refine wc_seq ?_; intro K4 hK4
  refine wc_region ?_
  refine wl_y (y_move rfl) rfl ?_
  refine wl_y (y_nilp rfl) rfl ?_
  refine wl_y (y_fieldAddr (o := 9) (s := 1) (off := 0) (o' := 9) rfl Try.underlying70 rfl (by kernel_rfl) rfl rfl) rfl ?_
  refine wl_y (y_load1 rfl Try.underlying3 rfl (H.get (hash_len s A m c N))) rfl ?_
  refine wl_y (y_assign rfl) rfl ?_
  refine wl_nil ?_
  refine wq_then_norm (hK4 ?_)
  refine wc_ret ?_
  refine hret rfl ?_
  exact ⟨rfl, E⟩
theorem hlen_nil (w : World) : Calls Try.prog 16 #[.pointer none] w fun e w' => e = .returned (.int .i64 0) ∧ Ext w w' := by
  have E := Ext.refl w
  refine vc_enter1 9 Try.func16 rfl rfl rfl rfl ?_
  intro Q hret
  refine wc_seq ?_; intro K1 hK1
  refine wc_region ?_
  refine wl_y (y_assign rfl) rfl ?_
  refine wl_nil ?_
  refine wq_then_norm (hK1 ?_)
  refine wc_seq ?_; intro K2 hK2
  refine wc_seq ?_; intro K3 hK3
  refine wc_region ?_
  refine wl_y (y_move rfl) rfl ?_
  refine wl_y (Y.as (y_eqlp rfl rfl Try.underlying25) (congrArg Value.bool (show _ = true from rfl))) rfl ?_
  refine wl_nil ?_
  refine wq_then_norm (hK3 ?_)
  refine wc_true rfl rfl ?_
  refine wc_seq ?_; intro K4 hK4
  refine wc_region ?_
  refine wl_y (y_assign rfl) rfl ?_
  refine wl_nil ?_
  refine wq_then_norm (hK4 ?_)
  refine wc_ret ?_
  refine wq_then_ret ?_
  refine hret rfl ?_
  exact ⟨rfl, E⟩
theorem hwrite_nil (A : Option Addr) (n c : Nat) (w : World) : Calls Try.prog 12 #[.pointer none, .slice A n c] w fun e w' => e = .returned (.tuple #[]) ∧ Ext w w' := by
  have E := Ext.refl w
  refine vc_enter0 47 Try.func12 rfl rfl rfl rfl ?_
  intro Q hret
  refine wc_seq ?_; intro K1 hK1
  refine wc_seq ?_; intro K2 hK2
  refine wc_region ?_
  refine wl_y (y_move rfl) rfl ?_
  refine wl_y (Y.as (y_eqlp rfl rfl Try.underlying25) (congrArg Value.bool (show _ = true from rfl))) rfl ?_
  refine wl_nil ?_
  refine wq_then_norm (hK2 ?_)
  refine wc_true rfl rfl ?_
  refine wc_ret ?_
  refine wq_then_ret ?_
  refine hret (.inl rfl) ?_
  exact ⟨rfl, E⟩

theorem hsum_nil (w : World) : Calls Try.prog 15 #[.pointer none] w fun e w' => ∃ g, e = .returned (.slice (some ⟨g, 0, none⟩) 32 32) ∧ w.heap.size ≤ g ∧ Blk w' g 28 (bys (Sha.sum [])) ∧ Ext w w' := by
  have E := Ext.refl w
  refine vc_enterM1 (3) 50 Try.func15 rfl rfl rfl rfl ?_
  intro Q hret0 hretD
  refine wc_seq ?_; intro K1 hK1
  refine wc_region ?_
  refine wl_y (y_assign rfl) rfl ?_
  refine wl_nil ?_
  refine wq_then_norm (hK1 ?_)
  refine wc_seq ?_; intro K2 hK2
  refine wc_seq ?_; intro K3 hK3
  refine wc_region ?_
  refine wl_y (y_move rfl) rfl ?_
  refine wl_y (Y.as (y_eqlp rfl rfl Try.underlying25) (congrArg Value.bool (show _ = true from rfl))) rfl ?_
  refine wl_nil ?_
  refine wq_then_norm (hK3 ?_)
  refine wc_true rfl rfl ?_
  refine wc_seq ?_; intro K4 hK4
  refine wc_region ?_
  refine wl_call Try.func17 rfl rfl rfl (of_any none 0 0 [] _ ⟨rfl, [], rfl, .inl rfl, fun i hi => by omega⟩ (by omega) (by simp)) rfl ?_
  rintro e w1 ⟨g, rfl, hg, B, ex⟩
  refine ⟨_, rfl, ?_⟩
  replace E := E.ext ex
  skip
  refine wl_y (y_assign rfl) rfl ?_
  refine wl_nil ?_
  refine wq_then_norm (hK4 ?_)
  refine wc_ret ?_
  refine wq_then_ret ?_
  refine hret0 rfl ?_
  exact ⟨g, rfl, hg, B, E⟩
end Go.Proofs.Ytopbahbhldgbbaa
