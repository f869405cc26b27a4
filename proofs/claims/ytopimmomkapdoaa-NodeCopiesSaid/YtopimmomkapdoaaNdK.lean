/- The law NodeBack: a node comes back of its bytes, and bytes of what is taken of them. -/
import Derived.Test.YtopimmomkapdoaaNdI
import Derived.Test.YtopimmomkapdoaaNdJ
namespace Go.Proofs.Ytopimmomkapdoaa
open Go.RowKit
attribute [local irreducible] Y Ef WL WC WK WQ WM OpM WN WF OpN WJ OpJ
open Wire Nd
def Node.Small (n : Node) : Prop := n.leaf.box.length ≤ 200 ∧ n.leaf.sign.length ≤ 200 ∧ n.leaf.ident.length ≤ 200 ∧ n.leaf.parent.length ≤ 200 ∧ n.leaf.sig.length ≤ 200 ∧ n.par.box.length ≤ 200 ∧ n.par.hash.length ≤ 200 ∧ n.par.late.length ≤ 60
instance (n : Node) : Decidable n.Small := by unfold Node.Small; exact inferInstance
theorem Node.Small.fit {n : Node} (h : n.Small) : n.Fit := by
  obtain ⟨h1, h2, h3, h4, h5, h6, h7, h8⟩ := h
  exact ⟨⟨by omega, by omega, by omega, by omega, by omega⟩, by omega, by omega, by omega⟩
theorem small_any {cs : Array Value} {n : Node} (w : World) (H : NodeAt w cs n) :
    Calls Try.prog 21 #[.agg cs] w fun e w' => e = .returned (.bool (decide n.Small)) ∧ Ext w w' := by
  obtain ⟨h0, h1, h2, h4, h5, p0, p1, p2, rfl, hk, hs, b0, b1, b2, b4, b5, q0', q1', q2'⟩ := H
  have l0 := b0.1; have l1 := b1.1; have l2 := b2.1; have l4 := b4.1; have l5 := b5.1
  have m0 := q0'.1; have m1 := q1'.1; have m2 := q2'.1
  have E := Ext.refl w
  refine vc_enter1 55 Try.func21 rfl rfl rfl rfl ?_
  intro Q hret
  refine wc_seq ?_; intro K1 hK1
  refine wc_region ?_
  refine wl_ef (ef_box rfl rfl) rfl ?_
  rintro _ wB1 ⟨gB1, rfl, B1, hgB1, ex⟩
  have lB1 := B1.lt; have zB1 := ex.size
  replace E := E.ext ex
  refine wl_y (y_assign rfl) rfl ?_
  refine wl_nil ?_
  refine wq_then_norm (hK1 ?_)
  refine wc_seq ?_; intro K2 hK2
  refine wc_drawB (by kernel_rfl) 8 rfl ?_; intro wd1 ex hd1
  replace E := E.ext ex
  replace B1 := B1.ext ex
  have E_0 := E
  have B1_0 := B1
  have X0 := Ext.refl wd1
  refine wn_y 0 rfl (by kernel_rfl) (y_fieldAddr (o := 1) (s := 6) (off := 0) (o' := 1) rfl Try.underlying30 rfl (by kernel_rfl) rfl rfl) rfl ?_
  refine wn_y 1 rfl (by kernel_rfl) (y_loadx (o := 1) (s := 6) rfl Try.underlying25 rfl (by kernel_rfl) B1_0 rfl) rfl ?_
  refine wn_y 2 rfl (by kernel_rfl) (y_fieldAddr (o := 7) (s := 3) (off := 0) (o' := 7) rfl Try.underlying30 rfl (by kernel_rfl) rfl rfl) rfl ?_
  refine wn_y 3 rfl (by kernel_rfl) (y_loadx (o := 7) (s := 3) rfl Try.underlying28 rfl (by kernel_rfl) B1_0 rfl) rfl ?_
  refine wf_start (fl := [flA 4 3 25 (zLeafV), flA 5 4 28 (zParV)]) rfl ?_
  refine wf_land2 ⟨(fall (flA_runs rfl (by kernel_rfl)) (fall (flA_runs rfl (by kernel_rfl)) fall_nil)), by decide, by decide, (fall (⟨rfl, by decide⟩) (fall (⟨rfl, by decide⟩) fall_nil)), (fall (mem_of_has (by kernel_rfl)) (fall (mem_of_has (by kernel_rfl)) fall_nil))⟩ (by kernel_rfl) ?_
  rintro _ _ wl1 ex ⟨⟨g3, rfl, Bg3⟩, hg3⟩ ⟨⟨g4, rfl, Bg4⟩, hg4⟩ farg3_g4
  replace hg3 := hg3 g3 rfl
  replace hg4 := hg4 g4 rfl
  have neg3_g4 : g3 ≠ g4 := fun e => farg3_g4 g3 rfl (by rw [e]; rfl)
  replace E := E.ext ex
  replace B1 := B1.ext ex
  replace X0 := X0.ext ex
  refine wn_one 6 (by kernel_rfl) ?_
  refine on_ef rfl (ef_storeW (cells := leafV h0 h1 h2 n.leaf.src h4 h5) rfl rfl (by kernel_rfl) Bg3 rfl (all_ones rfl)) rfl ?_
  rintro _ wn1_6 ⟨rfl, Bg3, cg⟩
  replace X0 := X0.chg cg hg3
  refine ⟨X0, ?_⟩
  replace E := E_0.ext X0
  replace B1 := B1_0.ext X0
  replace Bg4 := Bg4.chg cg (by omega)
  refine wn_one 7 (by kernel_rfl) ?_
  refine on_ef rfl (ef_storeW (cells := parV p0 p1 p2) rfl rfl (by kernel_rfl) Bg4 rfl (all_ones rfl)) rfl ?_
  rintro _ wn1_7 ⟨rfl, Bg4, cg⟩
  replace X0 := X0.chg cg hg4
  refine ⟨X0, ?_⟩
  replace E := E_0.ext X0
  replace B1 := B1_0.ext X0
  replace Bg3 := Bg3.chg cg (by omega)
  refine wn_done (by kernel_rfl) ?_
  refine wq_nop ?_
  refine wq_then_norm (hK2 ?_)
  refine wc_seq ?_; intro K3 hK3
  refine wc_region ?_
  refine wl_y (y_fieldAddr (o := 0) (s := 1) (off := 0) (o' := 0) rfl Try.underlying25 rfl (by kernel_rfl) rfl rfl) rfl ?_
  refine wl_y (y_load1 rfl Try.underlying22 rfl (Bg3.get (i := 0) rfl)) rfl ?_
  refine wl_y (y_len_slice rfl Try.underlying22) rfl ?_
  refine wl_y (y_leq rfl rfl) rfl ?_
  refine wl_yask (y_move rfl) rfl (fun t0 => ?_) (fun t0 => ?_)
  · skip
    refine wl_gy 13 rfl rfl (y_fieldAddr (o := 1) (s := 1) (off := 0) (o' := 1) rfl Try.underlying25 rfl (by kernel_rfl) rfl rfl) rfl ?_
    refine wl_gy 13 rfl rfl (y_load1 rfl Try.underlying22 rfl (Bg3.get (i := 1) rfl)) rfl ?_
    refine wl_gy 13 rfl rfl (y_len_slice rfl Try.underlying22) rfl ?_
    refine wl_gy 13 rfl rfl (y_leq rfl rfl) rfl ?_
    refine wl_y (y_pickt rfl rfl) rfl ?_
    refine wl_yask (y_move rfl) rfl (fun t1 => ?_) (fun t1 => ?_)
    · skip
      refine wl_gy 19 rfl rfl (y_fieldAddr (o := 2) (s := 1) (off := 0) (o' := 2) rfl Try.underlying25 rfl (by kernel_rfl) rfl rfl) rfl ?_
      refine wl_gy 19 rfl rfl (y_load1 rfl Try.underlying22 rfl (Bg3.get (i := 2) rfl)) rfl ?_
      refine wl_gy 19 rfl rfl (y_len_slice rfl Try.underlying22) rfl ?_
      refine wl_gy 19 rfl rfl (y_leq rfl rfl) rfl ?_
      refine wl_y (y_pickt rfl rfl) rfl ?_
      refine wl_yask (y_move rfl) rfl (fun t2 => ?_) (fun t2 => ?_)
      · skip
        refine wl_gy 25 rfl rfl (y_fieldAddr (o := 4) (s := 1) (off := 0) (o' := 4) rfl Try.underlying25 rfl (by kernel_rfl) rfl rfl) rfl ?_
        refine wl_gy 25 rfl rfl (y_load1 rfl Try.underlying22 rfl (Bg3.get (i := 4) rfl)) rfl ?_
        refine wl_gy 25 rfl rfl (y_len_slice rfl Try.underlying22) rfl ?_
        refine wl_gy 25 rfl rfl (y_leq rfl rfl) rfl ?_
        refine wl_y (y_pickt rfl rfl) rfl ?_
        refine wl_yask (y_move rfl) rfl (fun t3 => ?_) (fun t3 => ?_)
        · skip
          refine wl_gy 31 rfl rfl (y_fieldAddr (o := 5) (s := 1) (off := 0) (o' := 5) rfl Try.underlying25 rfl (by kernel_rfl) rfl rfl) rfl ?_
          refine wl_gy 31 rfl rfl (y_load1 rfl Try.underlying22 rfl (Bg3.get (i := 5) rfl)) rfl ?_
          refine wl_gy 31 rfl rfl (y_len_slice rfl Try.underlying22) rfl ?_
          refine wl_gy 31 rfl rfl (y_leq rfl rfl) rfl ?_
          refine wl_y (y_pickt rfl rfl) rfl ?_
          refine wl_yask (y_move rfl) rfl (fun t4 => ?_) (fun t4 => ?_)
          · skip
            refine wl_gy 37 rfl rfl (y_fieldAddr (o := 0) (s := 1) (off := 0) (o' := 0) rfl Try.underlying28 rfl (by kernel_rfl) rfl rfl) rfl ?_
            refine wl_gy 37 rfl rfl (y_load1 rfl Try.underlying22 rfl (Bg4.get (i := 0) rfl)) rfl ?_
            refine wl_gy 37 rfl rfl (y_len_slice rfl Try.underlying22) rfl ?_
            refine wl_gy 37 rfl rfl (y_leq rfl rfl) rfl ?_
            refine wl_y (y_pickt rfl rfl) rfl ?_
            refine wl_yask (y_move rfl) rfl (fun t5 => ?_) (fun t5 => ?_)
            · skip
              refine wl_gy 43 rfl rfl (y_fieldAddr (o := 1) (s := 1) (off := 0) (o' := 1) rfl Try.underlying28 rfl (by kernel_rfl) rfl rfl) rfl ?_
              refine wl_gy 43 rfl rfl (y_load1 rfl Try.underlying22 rfl (Bg4.get (i := 1) rfl)) rfl ?_
              refine wl_gy 43 rfl rfl (y_len_slice rfl Try.underlying22) rfl ?_
              refine wl_gy 43 rfl rfl (y_leq rfl rfl) rfl ?_
              refine wl_y (y_pickt rfl rfl) rfl ?_
              refine wl_yask (y_move rfl) rfl (fun t6 => ?_) (fun t6 => ?_)
              · skip
                refine wl_gy 49 rfl rfl (y_fieldAddr (o := 2) (s := 1) (off := 0) (o' := 2) rfl Try.underlying28 rfl (by kernel_rfl) rfl rfl) rfl ?_
                refine wl_gy 49 rfl rfl (y_load1 rfl Try.underlying26 rfl (Bg4.get (i := 2) rfl)) rfl ?_
                refine wl_gy 49 rfl rfl (y_len_slice rfl Try.underlying26) rfl ?_
                refine wl_gy 49 rfl rfl (y_leq rfl rfl) rfl ?_
                refine wl_y (y_pickt rfl rfl) rfl ?_
                refine wl_y (y_assign rfl) rfl ?_
                refine wl_nil ?_
                refine wq_then_norm (hK3 ?_)
                refine wc_ret ?_
                refine hret rfl ?_
                exact ⟨ret_bool (by unfold Node.Small; omega), E⟩
              · skip
                refine wl_gno 49 rfl rfl rfl rfl ?_
                refine wl_gno 49 rfl rfl rfl rfl ?_
                refine wl_gno 49 rfl rfl rfl rfl ?_
                refine wl_gno 49 rfl rfl rfl rfl ?_
                refine wl_y (y_pickf rfl rfl) rfl ?_
                refine wl_y (y_assign rfl) rfl ?_
                refine wl_nil ?_
                refine wq_then_norm (hK3 ?_)
                refine wc_ret ?_
                refine hret rfl ?_
                exact ⟨ret_no fun h => by unfold Node.Small at h; omega, E⟩
            · skip
              refine wl_gno 43 rfl rfl rfl rfl ?_
              refine wl_gno 43 rfl rfl rfl rfl ?_
              refine wl_gno 43 rfl rfl rfl rfl ?_
              refine wl_gno 43 rfl rfl rfl rfl ?_
              refine wl_y (y_pickf rfl rfl) rfl ?_
              refine wl_y (y_move rfl) rfl ?_
              refine wl_gno 49 rfl rfl rfl rfl ?_
              refine wl_gno 49 rfl rfl rfl rfl ?_
              refine wl_gno 49 rfl rfl rfl rfl ?_
              refine wl_gno 49 rfl rfl rfl rfl ?_
              refine wl_y (y_pickf rfl rfl) rfl ?_
              refine wl_y (y_assign rfl) rfl ?_
              refine wl_nil ?_
              refine wq_then_norm (hK3 ?_)
              refine wc_ret ?_
              refine hret rfl ?_
              exact ⟨ret_no fun h => by unfold Node.Small at h; omega, E⟩
          · skip
            refine wl_gno 37 rfl rfl rfl rfl ?_
            refine wl_gno 37 rfl rfl rfl rfl ?_
            refine wl_gno 37 rfl rfl rfl rfl ?_
            refine wl_gno 37 rfl rfl rfl rfl ?_
            refine wl_y (y_pickf rfl rfl) rfl ?_
            refine wl_y (y_move rfl) rfl ?_
            refine wl_gno 43 rfl rfl rfl rfl ?_
            refine wl_gno 43 rfl rfl rfl rfl ?_
            refine wl_gno 43 rfl rfl rfl rfl ?_
            refine wl_gno 43 rfl rfl rfl rfl ?_
            refine wl_y (y_pickf rfl rfl) rfl ?_
            refine wl_y (y_move rfl) rfl ?_
            refine wl_gno 49 rfl rfl rfl rfl ?_
            refine wl_gno 49 rfl rfl rfl rfl ?_
            refine wl_gno 49 rfl rfl rfl rfl ?_
            refine wl_gno 49 rfl rfl rfl rfl ?_
            refine wl_y (y_pickf rfl rfl) rfl ?_
            refine wl_y (y_assign rfl) rfl ?_
            refine wl_nil ?_
            refine wq_then_norm (hK3 ?_)
            refine wc_ret ?_
            refine hret rfl ?_
            exact ⟨ret_no fun h => by unfold Node.Small at h; omega, E⟩
        · skip
          refine wl_gno 31 rfl rfl rfl rfl ?_
          refine wl_gno 31 rfl rfl rfl rfl ?_
          refine wl_gno 31 rfl rfl rfl rfl ?_
          refine wl_gno 31 rfl rfl rfl rfl ?_
          refine wl_y (y_pickf rfl rfl) rfl ?_
          refine wl_y (y_move rfl) rfl ?_
          refine wl_gno 37 rfl rfl rfl rfl ?_
          refine wl_gno 37 rfl rfl rfl rfl ?_
          refine wl_gno 37 rfl rfl rfl rfl ?_
          refine wl_gno 37 rfl rfl rfl rfl ?_
          refine wl_y (y_pickf rfl rfl) rfl ?_
          refine wl_y (y_move rfl) rfl ?_
          refine wl_gno 43 rfl rfl rfl rfl ?_
          refine wl_gno 43 rfl rfl rfl rfl ?_
          refine wl_gno 43 rfl rfl rfl rfl ?_
          refine wl_gno 43 rfl rfl rfl rfl ?_
          refine wl_y (y_pickf rfl rfl) rfl ?_
          refine wl_y (y_move rfl) rfl ?_
          refine wl_gno 49 rfl rfl rfl rfl ?_
          refine wl_gno 49 rfl rfl rfl rfl ?_
          refine wl_gno 49 rfl rfl rfl rfl ?_
          refine wl_gno 49 rfl rfl rfl rfl ?_
          refine wl_y (y_pickf rfl rfl) rfl ?_
          refine wl_y (y_assign rfl) rfl ?_
          refine wl_nil ?_
          refine wq_then_norm (hK3 ?_)
          refine wc_ret ?_
          refine hret rfl ?_
          exact ⟨ret_no fun h => by unfold Node.Small at h; omega, E⟩
      · skip
        refine wl_gno 25 rfl rfl rfl rfl ?_
        refine wl_gno 25 rfl rfl rfl rfl ?_
        refine wl_gno 25 rfl rfl rfl rfl ?_
        refine wl_gno 25 rfl rfl rfl rfl ?_
        refine wl_y (y_pickf rfl rfl) rfl ?_
        refine wl_y (y_move rfl) rfl ?_
        refine wl_gno 31 rfl rfl rfl rfl ?_
        refine wl_gno 31 rfl rfl rfl rfl ?_
        refine wl_gno 31 rfl rfl rfl rfl ?_
        refine wl_gno 31 rfl rfl rfl rfl ?_
        refine wl_y (y_pickf rfl rfl) rfl ?_
        refine wl_y (y_move rfl) rfl ?_
        refine wl_gno 37 rfl rfl rfl rfl ?_
        refine wl_gno 37 rfl rfl rfl rfl ?_
        refine wl_gno 37 rfl rfl rfl rfl ?_
        refine wl_gno 37 rfl rfl rfl rfl ?_
        refine wl_y (y_pickf rfl rfl) rfl ?_
        refine wl_y (y_move rfl) rfl ?_
        refine wl_gno 43 rfl rfl rfl rfl ?_
        refine wl_gno 43 rfl rfl rfl rfl ?_
        refine wl_gno 43 rfl rfl rfl rfl ?_
        refine wl_gno 43 rfl rfl rfl rfl ?_
        refine wl_y (y_pickf rfl rfl) rfl ?_
        refine wl_y (y_move rfl) rfl ?_
        refine wl_gno 49 rfl rfl rfl rfl ?_
        refine wl_gno 49 rfl rfl rfl rfl ?_
        refine wl_gno 49 rfl rfl rfl rfl ?_
        refine wl_gno 49 rfl rfl rfl rfl ?_
        refine wl_y (y_pickf rfl rfl) rfl ?_
        refine wl_y (y_assign rfl) rfl ?_
        refine wl_nil ?_
        refine wq_then_norm (hK3 ?_)
        refine wc_ret ?_
        refine hret rfl ?_
        exact ⟨ret_no fun h => by unfold Node.Small at h; omega, E⟩
    · skip
      refine wl_gno 19 rfl rfl rfl rfl ?_
      refine wl_gno 19 rfl rfl rfl rfl ?_
      refine wl_gno 19 rfl rfl rfl rfl ?_
      refine wl_gno 19 rfl rfl rfl rfl ?_
      refine wl_y (y_pickf rfl rfl) rfl ?_
      refine wl_y (y_move rfl) rfl ?_
      refine wl_gno 25 rfl rfl rfl rfl ?_
      refine wl_gno 25 rfl rfl rfl rfl ?_
      refine wl_gno 25 rfl rfl rfl rfl ?_
      refine wl_gno 25 rfl rfl rfl rfl ?_
      refine wl_y (y_pickf rfl rfl) rfl ?_
      refine wl_y (y_move rfl) rfl ?_
      refine wl_gno 31 rfl rfl rfl rfl ?_
      refine wl_gno 31 rfl rfl rfl rfl ?_
      refine wl_gno 31 rfl rfl rfl rfl ?_
      refine wl_gno 31 rfl rfl rfl rfl ?_
      refine wl_y (y_pickf rfl rfl) rfl ?_
      refine wl_y (y_move rfl) rfl ?_
      refine wl_gno 37 rfl rfl rfl rfl ?_
      refine wl_gno 37 rfl rfl rfl rfl ?_
      refine wl_gno 37 rfl rfl rfl rfl ?_
      refine wl_gno 37 rfl rfl rfl rfl ?_
      refine wl_y (y_pickf rfl rfl) rfl ?_
      refine wl_y (y_move rfl) rfl ?_
      refine wl_gno 43 rfl rfl rfl rfl ?_
      refine wl_gno 43 rfl rfl rfl rfl ?_
      refine wl_gno 43 rfl rfl rfl rfl ?_
      refine wl_gno 43 rfl rfl rfl rfl ?_
      refine wl_y (y_pickf rfl rfl) rfl ?_
      refine wl_y (y_move rfl) rfl ?_
      refine wl_gno 49 rfl rfl rfl rfl ?_
      refine wl_gno 49 rfl rfl rfl rfl ?_
      refine wl_gno 49 rfl rfl rfl rfl ?_
      refine wl_gno 49 rfl rfl rfl rfl ?_
      refine wl_y (y_pickf rfl rfl) rfl ?_
      refine wl_y (y_assign rfl) rfl ?_
      refine wl_nil ?_
      refine wq_then_norm (hK3 ?_)
      refine wc_ret ?_
      refine hret rfl ?_
      exact ⟨ret_no fun h => by unfold Node.Small at h; omega, E⟩
  · skip
    refine wl_gno 13 rfl rfl rfl rfl ?_
    refine wl_gno 13 rfl rfl rfl rfl ?_
    refine wl_gno 13 rfl rfl rfl rfl ?_
    refine wl_gno 13 rfl rfl rfl rfl ?_
    refine wl_y (y_pickf rfl rfl) rfl ?_
    refine wl_y (y_move rfl) rfl ?_
    refine wl_gno 19 rfl rfl rfl rfl ?_
    refine wl_gno 19 rfl rfl rfl rfl ?_
    refine wl_gno 19 rfl rfl rfl rfl ?_
    refine wl_gno 19 rfl rfl rfl rfl ?_
    refine wl_y (y_pickf rfl rfl) rfl ?_
    refine wl_y (y_move rfl) rfl ?_
    refine wl_gno 25 rfl rfl rfl rfl ?_
    refine wl_gno 25 rfl rfl rfl rfl ?_
    refine wl_gno 25 rfl rfl rfl rfl ?_
    refine wl_gno 25 rfl rfl rfl rfl ?_
    refine wl_y (y_pickf rfl rfl) rfl ?_
    refine wl_y (y_move rfl) rfl ?_
    refine wl_gno 31 rfl rfl rfl rfl ?_
    refine wl_gno 31 rfl rfl rfl rfl ?_
    refine wl_gno 31 rfl rfl rfl rfl ?_
    refine wl_gno 31 rfl rfl rfl rfl ?_
    refine wl_y (y_pickf rfl rfl) rfl ?_
    refine wl_y (y_move rfl) rfl ?_
    refine wl_gno 37 rfl rfl rfl rfl ?_
    refine wl_gno 37 rfl rfl rfl rfl ?_
    refine wl_gno 37 rfl rfl rfl rfl ?_
    refine wl_gno 37 rfl rfl rfl rfl ?_
    refine wl_y (y_pickf rfl rfl) rfl ?_
    refine wl_y (y_move rfl) rfl ?_
    refine wl_gno 43 rfl rfl rfl rfl ?_
    refine wl_gno 43 rfl rfl rfl rfl ?_
    refine wl_gno 43 rfl rfl rfl rfl ?_
    refine wl_gno 43 rfl rfl rfl rfl ?_
    refine wl_y (y_pickf rfl rfl) rfl ?_
    refine wl_y (y_move rfl) rfl ?_
    refine wl_gno 49 rfl rfl rfl rfl ?_
    refine wl_gno 49 rfl rfl rfl rfl ?_
    refine wl_gno 49 rfl rfl rfl rfl ?_
    refine wl_gno 49 rfl rfl rfl rfl ?_
    refine wl_y (y_pickf rfl rfl) rfl ?_
    refine wl_y (y_assign rfl) rfl ?_
    refine wl_nil ?_
    refine wq_then_norm (hK3 ?_)
    refine wc_ret ?_
    refine hret rfl ?_
    exact ⟨ret_no fun h => by unfold Node.Small at h; omega, E⟩
namespace Nd
theorem nodeOf_there {n : Node} (ok : okNode n) (hl : n.par.late.length < 200000000) : nodeOf (nodeB n) = (n, 0) := by
  have h := node_there ok hl []
  rw [List.append_nil] at h
  rw [nodeOf_of h, if_neg (fun h => h rfl)]
  rfl
theorem nodeOf_back {b : List UInt8} {n : Node} (h : nodeOf b = (n, 0)) : okNode n ∧ nodeB n = b := by
  obtain ⟨x, z, st, hX⟩ : ∃ x z st, nodeX (.ok b) = ((x, z), st) := ⟨_, _, _, rfl⟩
  rw [nodeOf_of hX] at h
  split at h
  · rename_i hz; injection h with _ h; exact absurd h hz
  · rename_i hz
    have hz : z = 0 := Classical.not_not.1 hz
    subst hz
    split at h
    · rename_i he; injection h with _ h; exact absurd h he
    · rename_i he
      have he : endX st = 0 := Classical.not_not.1 he
      injection h with h _
      subst h
      obtain ⟨k1, r, k2, k3⟩ := node_back (good_ok b) hX
      subst k2
      cases r with
      | cons a t => exact absurd he (by show ¬ (5 : Nat) = 0; omega)
      | nil => injection k3 with k3; rw [List.append_nil] at k3; exact ⟨k1, k3.symm⟩
theorem nodeOf_err {b : List UInt8} {n : Node} {z : Nat} (h : nodeOf b = (n, z)) (hz : z ≠ 0) : n = Node.zero := by
  obtain ⟨x, y, st, hX⟩ : ∃ x z st, nodeX (.ok b) = ((x, z), st) := ⟨_, _, _, rfl⟩
  rw [nodeOf_of hX] at h
  split at h
  · injection h with h _; exact h.symm
  · split at h
    · injection h with h _; exact h.symm
    · injection h with _ h; exact absurd h.symm hz
theorem fit_nodeOf {b : List UInt8} {n : Node} {z : Nat} (h : nodeOf b = (n, z)) (hb : b.length ≤ 1000000) : n.Fit := by
  have fx := fit_nodeX (s := .ok b) hb
  obtain ⟨x, y, st, hX⟩ : ∃ x z st, nodeX (.ok b) = ((x, z), st) := ⟨_, _, _, rfl⟩
  rw [hX] at fx
  have z0 : Node.zero.Fit := ⟨fit_zero, fit_par0⟩
  rw [nodeOf_of hX] at h
  split at h
  · injection h with h _; rw [← h]; exact z0
  · split at h
    · injection h with h _; rw [← h]; exact z0
    · injection h with h _; rw [← h]; exact fx
theorem cok_nodeOf {b : List UInt8} {n : Node} {z : Nat} (h : nodeOf b = (n, z)) : z < 256 := by
  obtain ⟨x, y, st, hX⟩ : ∃ x z st, nodeX (.ok b) = ((x, z), st) := ⟨_, _, _, rfl⟩
  have hy := (cok_nodeX (s := .ok b) (show 0 < 256 by omega)).1
  have hs := (cok_nodeX (s := .ok b) (show 0 < 256 by omega)).2
  rw [hX] at hy hs
  rw [nodeOf_of hX] at h
  have he : endX st < 256 := by
    cases st with
    | error c => exact hs
    | ok r => cases r with
      | nil => exact (show 0 < 256 by omega)
      | cons a t => exact (show 5 < 256 by omega)
  split at h
  · injection h with _ h; rw [← h]; exact hy
  · split at h
    · injection h with _ h; rw [← h]; exact he
    · injection h with _ h; omega
theorem nodeE_ok {n : Node} {xs : List UInt8} {z : Nat} (h : nodeE n = (xs, z)) (hz : z = 0) : okNode n ∧ xs = nodeB n := by
  unfold nodeE at h
  split at h
  · rename_i ok; injection h with h _; exact ⟨ok, h.symm⟩
  · injection h with _ h; omega
theorem nodeE_le {n : Node} {xs : List UInt8} {z : Nat} (h : nodeE n = (xs, z)) : z = 0 ∨ z = 3 := by
  unfold nodeE at h
  split at h <;> injection h with _ h <;> omega
end Nd
theorem bytes16_at {cs : Array Value} {n : Node} {xs : List UInt8} {z : Nat} (w : World) (H : NodeAt w cs n) (hf : n.Fit) (h : nodeE n = (xs, z)) :
    Calls Try.prog 22 #[.agg cs] w fun e w' => ∃ A' k c', e = .returned (.tuple #[.slice A' k c', .int .u8 (z : Int)]) ∧ Row w' w.heap.size 5 A' k c' (xs.map bv) ∧ Ext w w' :=
  (Bytes16_any w H hf).mono fun _ _ ⟨A', k, c', h1, h2, h3⟩ => ⟨A', k, c', by rw [h1, h], by rw [h] at h2; exact h2, h3⟩
set_option maxHeartbeats 1000000 in
theorem nodeBack_law (cs : Array Value) (n : Node) (A : Option Addr) (k c : Nat) (b : List UInt8) (w : World) (HN : NodeAt w cs n) (HA : Bs w A k b) (_hk : k ≤ maxLen) (hc : k ≤ c) :
    Calls Try.prog 6 #[.agg cs, .slice A k c] w fun e w' => e = .returned (.bool true) ∧ Below w.heap.size w w' := by
  have hbl := HA.1
  have E := Ext.refl w
  obtain ⟨x, z, hO⟩ : ∃ x z, nodeOf b = (x, z) := ⟨_, _, rfl⟩
  obtain ⟨xs, y, hE⟩ : ∃ xs y, nodeE n = (xs, y) := ⟨_, _, rfl⟩
  have hz8 := cok_nodeOf hO
  have hy8 := nodeE_le hE
  have HN0 := HN
  obtain ⟨h0, h1, h2, h4, h5, p0, p1, p2, rfl, _⟩ := HN0
  refine vc_enter1 69 Try.func6 rfl rfl rfl rfl ?_
  intro Q hret
  refine wc_seq ?_; intro K1 hK1
  refine wc_region ?_
  refine wl_ef (ef_box rfl rfl) rfl ?_
  rintro _ wB2 ⟨gB2, rfl, B2, hgB2, ex⟩
  have lB2 := B2.lt; have zB2 := ex.size
  replace E := E.ext ex
  refine wl_y (y_assign rfl) rfl ?_
  refine wl_nil ?_
  refine wq_then_norm (hK1 ?_)
  refine wc_seq ?_; intro K2 hK2
  refine wc_seq ?_; intro K3 hK3
  refine wc_region ?_
  refine wl_call Try.func11 rfl rfl rfl (alive16_any _) rfl ?_
  rintro e w1 ⟨rfl, ex⟩
  refine ⟨_, rfl, ?_⟩
  replace E := E.ext ex
  replace B2 := B2.ext ex
  refine wl_y (y_not rfl) rfl ?_
  refine wl_nil ?_
  refine wq_then_norm (hK3 ?_)
  refine wc_false rfl rfl ?_
  refine wc_skip ?_
  refine wq_then_norm (hK2 ?_)
  refine wc_seq ?_; intro K4 hK4
  refine wc_seq ?_; intro K5 hK5
  refine wc_region ?_
  refine wl_y (y_loadx (o := 0) (s := 10) rfl Try.underlying30 rfl (by kernel_rfl) B2 rfl) rfl ?_
  refine wl_call Try.func21 rfl rfl rfl (small_any _ (HN.ext E)) rfl ?_
  rintro e w2 ⟨rfl, ex⟩
  refine ⟨_, rfl, ?_⟩
  replace E := E.ext ex
  replace B2 := B2.ext ex
  skip
  refine wl_y (y_not rfl) rfl ?_
  refine wl_yaskb (y_move rfl) rfl (fun q0 => ?_) (fun q0 => ?_)
  · skip
    refine wl_gno 18 rfl rfl rfl rfl ?_
    refine wl_gno 18 rfl rfl rfl rfl ?_
    refine wl_gno 18 rfl rfl rfl rfl ?_
    refine wl_y (y_pickt rfl rfl) rfl ?_
    refine wl_nil ?_
    refine wq_then_norm (hK5 ?_)
    refine wc_true rfl rfl ?_
    refine wc_seq ?_; intro K6 hK6
    refine wc_region ?_
    refine wl_y (y_assign rfl) rfl ?_
    refine wl_nil ?_
    refine wq_then_norm (hK6 ?_)
    refine wc_ret ?_
    refine wq_then_ret ?_
    refine hret rfl ?_
    exact ⟨rfl, E⟩
  · skip
    refine wl_gy 18 rfl rfl (y_move rfl) rfl ?_
    refine wl_gy 18 rfl rfl (y_len_slice rfl Try.underlying22) rfl ?_
    refine wl_gy 18 rfl rfl (y_gtr rfl rfl) rfl ?_
    refine wl_y (y_pickf rfl rfl) rfl ?_
    refine wl_nil ?_
    refine wq_then_norm (hK5 ?_)
    refine wc_dec rfl (fun hc2 => ?_) (fun hc2 => ?_)
    · skip
      refine wc_seq ?_; intro K7 hK7
      refine wc_region ?_
      refine wl_y (y_assign rfl) rfl ?_
      refine wl_nil ?_
      refine wq_then_norm (hK7 ?_)
      refine wc_ret ?_
      refine wq_then_ret ?_
      refine hret rfl ?_
      exact ⟨rfl, E⟩
    · skip
      refine wc_skip ?_
      refine wq_then_norm (hK4 ?_)
      refine wc_seq ?_; intro K8 hK8
      refine wc_region ?_
      refine wl_y (y_loadx (o := 0) (s := 10) rfl Try.underlying30 rfl (by kernel_rfl) B2 rfl) rfl ?_
      have hs : n.Small := by simpa using q0
      have hn := hs.fit
      have hb : b.length ≤ 1500 := by omega
      have fx := fit_nodeOf hO (by omega)
      refine wl_call Try.func22 rfl rfl rfl (bytes16_at _ (HN.ext E) hn hE) rfl ?_
      rintro e w3 ⟨A1, k1, c1, rfl, R1, ex⟩
      refine ⟨_, rfl, ?_⟩
      replace E := E.ext ex
      replace B2 := B2.ext ex
      have H1 := R1.bs; have g1 := R1.cap
      refine wl_y (y_move rfl) rfl ?_
      refine wl_y (y_extract rfl rfl) rfl ?_
      refine wl_y (y_extract rfl rfl) rfl ?_
      refine wl_y (y_assign rfl) rfl ?_
      refine wl_y (y_assign rfl) rfl ?_
      refine wl_nil ?_
      refine wq_then_norm (hK8 ?_)
      refine wc_seq ?_; intro K9 hK9
      refine wc_seq ?_; intro K10 hK10
      refine wc_region ?_
      refine wl_y (y_move rfl) rfl ?_
      refine wl_y (y_conv rfl Try.underlying33 Try.underlying3 (i64_ok (by omega) (by omega))) rfl ?_
      refine wl_y (y_eql rfl rfl) rfl ?_
      refine wl_nil ?_
      refine wq_then_norm (hK10 ?_)
      refine wc_dec rfl (fun hc3 => ?_) (fun hc3 => ?_)
      · skip
        refine wc_seq ?_; intro K11 hK11
        obtain ⟨ok, hxs⟩ := nodeE_ok hE (by omega)
        have hT : nodeOf xs = (n, 0) := by rw [hxs]; exact nodeOf_there ok (by have := hs.2.2.2.2.2.2.2; omega)
        refine wc_region ?_
        refine wl_y (y_move rfl) rfl ?_
        refine wl_call Try.func13 rfl rfl rfl (nodeOf_at _ H1 g1 hT) rfl ?_
        rintro e w4 ⟨cs2, rfl, HM, ex⟩
        refine ⟨_, rfl, ?_⟩
        replace E := E.ext ex
        replace B2 := B2.ext ex
        replace H1 := H1.ext ex
        have HM2 := HM; obtain ⟨i0, i1, i2, i4, i5, r0, r1, r2, rfl, _⟩ := HM2
        refine wl_y (y_move rfl) rfl ?_
        refine wl_y (y_extract rfl rfl) rfl ?_
        refine wl_y (y_extract rfl rfl) rfl ?_
        refine wl_ef (ef_alloc (Z := #[.int .u8 0, .slice none 0 0, .slice none 0 0, .slice none 0 0, .int .u8 0, .slice none 0 0, .slice none 0 0, .slice none 0 0, .slice none 0 0, .slice none 0 0]) (by kernel_rfl)) rfl ?_
        rintro _ wA7 ⟨gB7, rfl, D7, hgB7, exA⟩
        refine wl_ef (ef_storeP (o := 0) rfl rfl (by kernel_rfl) D7 (Nat.le_of_ble_eq_true rfl) (all_ones rfl)) rfl ?_
        rintro _ wB7 ⟨rfl, B7, cg⟩
        have ex := exA.chg cg hgB7; clear cg exA D7
        have lB7 := B7.lt; have zB7 := ex.size
        replace E := E.ext ex
        replace B2 := B2.ext ex
        replace H1 := H1.ext ex
        replace HM := HM.ext ex
        refine wl_y (y_assign rfl) rfl ?_
        refine wl_nil ?_
        refine wq_then_norm (hK11 ?_)
        refine wc_seq ?_; intro K12 hK12
        refine wc_region ?_
        refine wl_y (y_move rfl) rfl ?_
        refine wl_y (y_conv rfl Try.underlying33 Try.underlying3 (i64_ok (by omega) (by omega))) rfl ?_
        refine wl_y (y_neq rfl rfl) rfl ?_
        refine wl_y (Y.as (y_move rfl) (congrArg Value.bool (decide_eq_false (by omega)))) rfl ?_
        refine wl_gy 39 rfl rfl (y_loadx (o := 0) (s := 10) rfl Try.underlying30 rfl (by kernel_rfl) B7 rfl) rfl ?_
        refine wl_gy 39 rfl rfl (y_loadx (o := 0) (s := 10) rfl Try.underlying30 rfl (by kernel_rfl) B2 rfl) rfl ?_
        refine wl_gcall 39 rfl rfl Try.func29 rfl rfl rfl (nsame_any _ HM.at (HN.ext E) hn hn) rfl ?_
        rintro e w5 ⟨rfl, ex⟩
        refine ⟨_, rfl, ?_⟩
        replace E := E.ext ex
        replace B2 := B2.ext ex
        replace H1 := H1.ext ex
        replace HM := HM.ext ex
        replace B7 := B7.ext ex
        rw [decide_eq_true rfl]
        refine wl_gy 39 rfl rfl (y_not rfl) rfl ?_
        refine wl_y (y_pickf rfl rfl) rfl ?_
        refine wl_nil ?_
        refine wq_then_norm (hK12 ?_)
        refine wc_false rfl rfl ?_
        refine wc_skip ?_
        refine wq_then_norm (hK9 ?_)
        refine wc_seq ?_; intro K13 hK13
        refine wc_region ?_
        refine wl_y (y_move rfl) rfl ?_
        refine wl_call Try.func13 rfl rfl rfl (nodeOf_at _ (HA.ext E) hc hO) rfl ?_
        rintro e w6 ⟨cs3, rfl, HQ, ex⟩
        refine ⟨_, rfl, ?_⟩
        replace E := E.ext ex
        replace B2 := B2.ext ex
        replace H1 := H1.ext ex
        replace HM := HM.ext ex
        replace B7 := B7.ext ex
        have HQ2 := HQ; obtain ⟨j0, j1, j2, j4, j5, s0, s1, s2, rfl, _⟩ := HQ2
        refine wl_y (y_move rfl) rfl ?_
        refine wl_y (y_extract rfl rfl) rfl ?_
        refine wl_y (y_extract rfl rfl) rfl ?_
        refine wl_ef (ef_alloc (Z := #[.int .u8 0, .slice none 0 0, .slice none 0 0, .slice none 0 0, .int .u8 0, .slice none 0 0, .slice none 0 0, .slice none 0 0, .slice none 0 0, .slice none 0 0]) (by kernel_rfl)) rfl ?_
        rintro _ wA9 ⟨gB9, rfl, D9, hgB9, exA⟩
        refine wl_ef (ef_storeP (o := 0) rfl rfl (by kernel_rfl) D9 (Nat.le_of_ble_eq_true rfl) (all_ones rfl)) rfl ?_
        rintro _ wB9 ⟨rfl, B9, cg⟩
        have ex := exA.chg cg hgB9; clear cg exA D9
        have lB9 := B9.lt; have zB9 := ex.size
        replace E := E.ext ex
        replace B2 := B2.ext ex
        replace H1 := H1.ext ex
        replace HM := HM.ext ex
        replace B7 := B7.ext ex
        replace HQ := HQ.ext ex
        refine wl_y (y_assign rfl) rfl ?_
        refine wl_nil ?_
        refine wq_then_norm (hK13 ?_)
        refine wc_seq ?_; intro K14 hK14
        refine wc_seq ?_; intro K15 hK15
        refine wc_region ?_
        refine wl_y (y_move rfl) rfl ?_
        refine wl_y (y_conv rfl Try.underlying33 Try.underlying3 (i64_ok (by omega) (by omega))) rfl ?_
        refine wl_y (y_neq rfl rfl) rfl ?_
        refine wl_nil ?_
        refine wq_then_norm (hK15 ?_)
        refine wc_dec rfl (fun hc5 => ?_) (fun hc5 => ?_)
        · skip
          refine wc_seq ?_; intro K16 hK16
          refine wc_region ?_
          refine wl_y (y_loadx (o := 0) (s := 10) rfl Try.underlying30 rfl (by kernel_rfl) B9 rfl) rfl ?_
          refine wl_y (y_build rfl (cells := zNodeV) (by kernel_rfl)) rfl ?_
          have hx := nodeOf_err hO (by omega)
          subst hx
          refine wl_call Try.func29 rfl rfl rfl (nsame_any _ HQ.at (nodeAt_zero _) ⟨fit_zero, fit_par0⟩ ⟨fit_zero, fit_par0⟩) rfl ?_
          rintro e w7 ⟨rfl, ex⟩
          refine ⟨_, rfl, ?_⟩
          replace E := E.ext ex
          replace B2 := B2.ext ex
          replace H1 := H1.ext ex
          replace HM := HM.ext ex
          replace B7 := B7.ext ex
          replace HQ := HQ.ext ex
          replace B9 := B9.ext ex
          rw [decide_eq_true rfl]
          refine wl_y (y_assign rfl) rfl ?_
          refine wl_nil ?_
          refine wq_then_norm (hK16 ?_)
          refine wc_ret ?_
          refine wq_then_ret ?_
          refine hret rfl ?_
          exact ⟨rfl, E⟩
        · skip
          refine wc_skip ?_
          refine wq_then_norm (hK14 ?_)
          refine wc_seq ?_; intro K17 hK17
          refine wc_region ?_
          refine wl_y (y_loadx (o := 0) (s := 10) rfl Try.underlying30 rfl (by kernel_rfl) B9 rfl) rfl ?_
          obtain ⟨okx, hxb⟩ := nodeOf_back (n := x) (by rw [hO, show z = 0 by omega])
          have hE2 : nodeE x = (b, 0) := by unfold nodeE; rw [if_pos okx, hxb]
          refine wl_call Try.func22 rfl rfl rfl (bytes16_at _ HQ.at fx hE2) rfl ?_
          rintro e w8 ⟨A2, k2, c2, rfl, R2, ex⟩
          refine ⟨_, rfl, ?_⟩
          replace E := E.ext ex
          replace B2 := B2.ext ex
          replace H1 := H1.ext ex
          replace HM := HM.ext ex
          replace B7 := B7.ext ex
          replace HQ := HQ.ext ex
          replace B9 := B9.ext ex
          have H2 := R2.bs
          refine wl_y (y_move rfl) rfl ?_
          refine wl_y (y_extract rfl rfl) rfl ?_
          refine wl_y (y_extract rfl rfl) rfl ?_
          refine wl_y (y_assign rfl) rfl ?_
          refine wl_y (y_assign rfl) rfl ?_
          refine wl_nil ?_
          refine wq_then_norm (hK17 ?_)
          refine wc_seq ?_; intro K18 hK18
          refine wc_region ?_
          refine wl_y (y_move rfl) rfl ?_
          refine wl_y (y_conv rfl Try.underlying33 Try.underlying3 (i64_ok (by omega) (by omega))) rfl ?_
          refine wl_y (y_eql rfl rfl) rfl ?_
          refine wl_y (Y.as (y_move rfl) (congrArg Value.bool (decide_eq_true (by omega)))) rfl ?_
          refine wl_gy 64 rfl rfl (y_move rfl) rfl ?_
          refine wl_gy 64 rfl rfl (y_move rfl) rfl ?_
          have hk2 := H2.1
          refine wl_gcall 64 rfl rfl Try.func25 rfl rfl rfl (sm_any H2 (HA.ext E) (by omega) (by omega)) rfl ?_
          rintro e w9 ⟨rfl, ex⟩
          refine ⟨_, rfl, ?_⟩
          replace E := E.ext ex
          replace B2 := B2.ext ex
          replace H1 := H1.ext ex
          replace HM := HM.ext ex
          replace B7 := B7.ext ex
          replace HQ := HQ.ext ex
          replace B9 := B9.ext ex
          replace H2 := H2.ext ex
          rw [decide_eq_true rfl]
          refine wl_y (y_pickt rfl rfl) rfl ?_
          refine wl_y (y_assign rfl) rfl ?_
          refine wl_nil ?_
          refine wq_then_norm (hK18 ?_)
          refine wc_ret ?_
          refine hret rfl ?_
          exact ⟨rfl, E⟩
      · skip
        refine wc_skip ?_
        refine wq_then_norm (hK9 ?_)
        refine wc_seq ?_; intro K19 hK19
        refine wc_region ?_
        refine wl_y (y_move rfl) rfl ?_
        refine wl_call Try.func13 rfl rfl rfl (nodeOf_at _ (HA.ext E) hc hO) rfl ?_
        rintro e w6 ⟨cs3, rfl, HQ, ex⟩
        refine ⟨_, rfl, ?_⟩
        replace E := E.ext ex
        replace B2 := B2.ext ex
        replace H1 := H1.ext ex
        have HQ2 := HQ; obtain ⟨j0, j1, j2, j4, j5, s0, s1, s2, rfl, _⟩ := HQ2
        refine wl_y (y_move rfl) rfl ?_
        refine wl_y (y_extract rfl rfl) rfl ?_
        refine wl_y (y_extract rfl rfl) rfl ?_
        refine wl_ef (ef_alloc (Z := #[.int .u8 0, .slice none 0 0, .slice none 0 0, .slice none 0 0, .int .u8 0, .slice none 0 0, .slice none 0 0, .slice none 0 0, .slice none 0 0, .slice none 0 0]) (by kernel_rfl)) rfl ?_
        rintro _ wA9 ⟨gB9, rfl, D9, hgB9, exA⟩
        refine wl_ef (ef_storeP (o := 0) rfl rfl (by kernel_rfl) D9 (Nat.le_of_ble_eq_true rfl) (all_ones rfl)) rfl ?_
        rintro _ wB9 ⟨rfl, B9, cg⟩
        have ex := exA.chg cg hgB9; clear cg exA D9
        have lB9 := B9.lt; have zB9 := ex.size
        replace E := E.ext ex
        replace B2 := B2.ext ex
        replace H1 := H1.ext ex
        replace HQ := HQ.ext ex
        refine wl_y (y_assign rfl) rfl ?_
        refine wl_nil ?_
        refine wq_then_norm (hK19 ?_)
        refine wc_seq ?_; intro K20 hK20
        refine wc_seq ?_; intro K21 hK21
        refine wc_region ?_
        refine wl_y (y_move rfl) rfl ?_
        refine wl_y (y_conv rfl Try.underlying33 Try.underlying3 (i64_ok (by omega) (by omega))) rfl ?_
        refine wl_y (y_neq rfl rfl) rfl ?_
        refine wl_nil ?_
        refine wq_then_norm (hK21 ?_)
        refine wc_dec rfl (fun hc5 => ?_) (fun hc5 => ?_)
        · skip
          refine wc_seq ?_; intro K22 hK22
          refine wc_region ?_
          refine wl_y (y_loadx (o := 0) (s := 10) rfl Try.underlying30 rfl (by kernel_rfl) B9 rfl) rfl ?_
          refine wl_y (y_build rfl (cells := zNodeV) (by kernel_rfl)) rfl ?_
          have hx := nodeOf_err hO (by omega)
          subst hx
          refine wl_call Try.func29 rfl rfl rfl (nsame_any _ HQ.at (nodeAt_zero _) ⟨fit_zero, fit_par0⟩ ⟨fit_zero, fit_par0⟩) rfl ?_
          rintro e w7 ⟨rfl, ex⟩
          refine ⟨_, rfl, ?_⟩
          replace E := E.ext ex
          replace B2 := B2.ext ex
          replace H1 := H1.ext ex
          replace HQ := HQ.ext ex
          replace B9 := B9.ext ex
          rw [decide_eq_true rfl]
          refine wl_y (y_assign rfl) rfl ?_
          refine wl_nil ?_
          refine wq_then_norm (hK22 ?_)
          refine wc_ret ?_
          refine wq_then_ret ?_
          refine hret rfl ?_
          exact ⟨rfl, E⟩
        · skip
          refine wc_skip ?_
          refine wq_then_norm (hK20 ?_)
          refine wc_seq ?_; intro K23 hK23
          refine wc_region ?_
          refine wl_y (y_loadx (o := 0) (s := 10) rfl Try.underlying30 rfl (by kernel_rfl) B9 rfl) rfl ?_
          obtain ⟨okx, hxb⟩ := nodeOf_back (n := x) (by rw [hO, show z = 0 by omega])
          have hE2 : nodeE x = (b, 0) := by unfold nodeE; rw [if_pos okx, hxb]
          refine wl_call Try.func22 rfl rfl rfl (bytes16_at _ HQ.at fx hE2) rfl ?_
          rintro e w8 ⟨A2, k2, c2, rfl, R2, ex⟩
          refine ⟨_, rfl, ?_⟩
          replace E := E.ext ex
          replace B2 := B2.ext ex
          replace H1 := H1.ext ex
          replace HQ := HQ.ext ex
          replace B9 := B9.ext ex
          have H2 := R2.bs
          refine wl_y (y_move rfl) rfl ?_
          refine wl_y (y_extract rfl rfl) rfl ?_
          refine wl_y (y_extract rfl rfl) rfl ?_
          refine wl_y (y_assign rfl) rfl ?_
          refine wl_y (y_assign rfl) rfl ?_
          refine wl_nil ?_
          refine wq_then_norm (hK23 ?_)
          refine wc_seq ?_; intro K24 hK24
          refine wc_region ?_
          refine wl_y (y_move rfl) rfl ?_
          refine wl_y (y_conv rfl Try.underlying33 Try.underlying3 (i64_ok (by omega) (by omega))) rfl ?_
          refine wl_y (y_eql rfl rfl) rfl ?_
          refine wl_y (Y.as (y_move rfl) (congrArg Value.bool (decide_eq_true (by omega)))) rfl ?_
          refine wl_gy 64 rfl rfl (y_move rfl) rfl ?_
          refine wl_gy 64 rfl rfl (y_move rfl) rfl ?_
          have hk2 := H2.1
          refine wl_gcall 64 rfl rfl Try.func25 rfl rfl rfl (sm_any H2 (HA.ext E) (by omega) (by omega)) rfl ?_
          rintro e w9 ⟨rfl, ex⟩
          refine ⟨_, rfl, ?_⟩
          replace E := E.ext ex
          replace B2 := B2.ext ex
          replace H1 := H1.ext ex
          replace HQ := HQ.ext ex
          replace B9 := B9.ext ex
          replace H2 := H2.ext ex
          rw [decide_eq_true rfl]
          refine wl_y (y_pickt rfl rfl) rfl ?_
          refine wl_y (y_assign rfl) rfl ?_
          refine wl_nil ?_
          refine wq_then_norm (hK24 ?_)
          refine wc_ret ?_
          refine hret rfl ?_
          exact ⟨rfl, E⟩
end Go.Proofs.Ytopimmomkapdoaa
