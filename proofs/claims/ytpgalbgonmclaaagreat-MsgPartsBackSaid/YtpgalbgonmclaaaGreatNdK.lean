/- The law NodeBack: a node comes back of its bytes, and bytes of what is taken of them. -/
import Derived.Test.YtpgalbgonmclaaaGreatNdJ
namespace Go.Proofs.YtpgalbgonmclaaaGreat
open Go.RowKit
attribute [local irreducible] Y Ef WL WC WK WQ WM OpM WN WF OpN WJ OpJ
open Wire Nd
def Node.Small (n : Node) : Prop := n.leaf.box.length ≤ 200 ∧ n.leaf.sign.length ≤ 200 ∧ n.leaf.ident.length ≤ 200 ∧ n.leaf.parent.length ≤ 200 ∧ n.leaf.sig.length ≤ 200 ∧ n.par.box.length ≤ 200 ∧ n.par.hash.length ≤ 200 ∧ n.par.late.length ≤ 60
instance (n : Node) : Decidable n.Small := by unfold Node.Small; exact inferInstance
theorem Node.Small.fit {n : Node} (h : n.Small) : n.Fit := by
  obtain ⟨h1, h2, h3, h4, h5, h6, h7, h8⟩ := h
  exact ⟨⟨by omega, by omega, by omega, by omega, by omega⟩, by omega, by omega, by omega⟩
theorem small_any {cs : Array Value} {n : Node} (w : World) (H : NodeAt w cs n) :
    Calls Tryz.prog 60 #[.agg cs] w fun e w' => e = .returned (.bool (decide n.Small)) ∧ Ext w w' := by
  obtain ⟨h0, h1, h2, h4, h5, p0, p1, p2, rfl, hk, hs, b0, b1, b2, b4, b5, q0', q1', q2'⟩ := H
  have l0 := b0.1; have l1 := b1.1; have l2 := b2.1; have l4 := b4.1; have l5 := b5.1
  have m0 := q0'.1; have m1 := q1'.1; have m2 := q2'.1
  have E := Ext.refl w
  refine vc_enter1 55 Tryz.func60 rfl rfl rfl rfl ?_
  intro Q hret
  refine wc_seq ?_; intro K1 hK1
  refine wc_region ?_
  refine wl_ef (ef_box rfl rfl) rfl ?_
  rintro _ wB1 ⟨gB1, rfl, B1, hgB1, ex⟩
  have lB1 := B1.lt; have zB1 := ex.size
  replace E := E.ext ex
  refine wl_y (y_assign rfl) rfl ?_
  refine wl_nil ?_
  refine wq_then_norm (hK1 ?_)
  refine wc_seq ?_; intro K2 hK2
  refine wc_drawB (by kernel_rfl) 8 rfl ?_; intro wd1 ex hd1
  replace E := E.ext ex
  replace B1 := B1.ext ex
  have E_0 := E
  have B1_0 := B1
  have X0 := Ext.refl wd1
  refine wn_y 0 rfl (by kernel_rfl) (y_fieldAddr (o := 1) (s := 6) (off := 0) (o' := 1) rfl Tryz.underlying113 rfl (by kernel_rfl) rfl rfl) rfl ?_
  refine wn_y 1 rfl (by kernel_rfl) (y_loadx (o := 1) (s := 6) rfl Tryz.underlying25 rfl (by kernel_rfl) B1_0 rfl) rfl ?_
  refine wn_y 2 rfl (by kernel_rfl) (y_fieldAddr (o := 7) (s := 3) (off := 0) (o' := 7) rfl Tryz.underlying113 rfl (by kernel_rfl) rfl rfl) rfl ?_
  refine wn_y 3 rfl (by kernel_rfl) (y_loadx (o := 7) (s := 3) rfl Tryz.underlying111 rfl (by kernel_rfl) B1_0 rfl) rfl ?_
  refine wf_start (fl := [flA 4 3 25 (zLeafV), flA 5 4 111 (zParV)]) rfl ?_
  refine wf_land2 ⟨(fall (flA_runs rfl (by kernel_rfl)) (fall (flA_runs rfl (by kernel_rfl)) fall_nil)), by decide, by decide, (fall (⟨rfl, by decide⟩) (fall (⟨rfl, by decide⟩) fall_nil)), (fall (mem_of_has (by kernel_rfl)) (fall (mem_of_has (by kernel_rfl)) fall_nil))⟩ (by kernel_rfl) ?_
  rintro _ _ wl1 ex ⟨⟨g3, rfl, Bg3⟩, hg3⟩ ⟨⟨g4, rfl, Bg4⟩, hg4⟩ farg3_g4
  replace hg3 := hg3 g3 rfl
  replace hg4 := hg4 g4 rfl
  have neg3_g4 : g3 ≠ g4 := fun e => farg3_g4 g3 rfl (by rw [e]; rfl)
  replace E := E.ext ex
  replace B1 := B1.ext ex
  replace X0 := X0.ext ex
  refine wn_one 6 (by kernel_rfl) ?_
  refine on_ef rfl (ef_storeW (cells := leafV h0 h1 h2 n.leaf.src h4 h5) rfl rfl (by kernel_rfl) Bg3 rfl (all_ones rfl)) rfl ?_
  rintro _ wn1_6 ⟨rfl, Bg3, cg⟩
  replace X0 := X0.chg cg hg3
  refine ⟨X0, ?_⟩
  replace E := E_0.ext X0
  replace B1 := B1_0.ext X0
  replace Bg4 := Bg4.chg cg (by omega)
  refine wn_one 7 (by kernel_rfl) ?_
  refine on_ef rfl (ef_storeW (cells := parV p0 p1 p2) rfl rfl (by kernel_rfl) Bg4 rfl (all_ones rfl)) rfl ?_
  rintro _ wn1_7 ⟨rfl, Bg4, cg⟩
  replace X0 := X0.chg cg hg4
  refine ⟨X0, ?_⟩
  replace E := E_0.ext X0
  replace B1 := B1_0.ext X0
  replace Bg3 := Bg3.chg cg (by omega)
  refine wn_done (by kernel_rfl) ?_
  refine wq_nop ?_
  refine wq_then_norm (hK2 ?_)
  refine wc_seq ?_; intro K3 hK3
  refine wc_region ?_
  refine wl_y (y_fieldAddr (o := 0) (s := 1) (off := 0) (o' := 0) rfl Tryz.underlying25 rfl (by kernel_rfl) rfl rfl) rfl ?_
  refine wl_y (y_load1 rfl Tryz.underlying22 rfl (Bg3.get (i := 0) rfl)) rfl ?_
  refine wl_y (y_len_slice rfl Tryz.underlying22) rfl ?_
  refine wl_y (y_leq rfl rfl) rfl ?_
  refine wl_yask (y_move rfl) rfl (fun t0 => ?_) (fun t0 => ?_)
  · skip
    refine wl_gy 13 rfl rfl (y_fieldAddr (o := 1) (s := 1) (off := 0) (o' := 1) rfl Tryz.underlying25 rfl (by kernel_rfl) rfl rfl) rfl ?_
    refine wl_gy 13 rfl rfl (y_load1 rfl Tryz.underlying22 rfl (Bg3.get (i := 1) rfl)) rfl ?_
    refine wl_gy 13 rfl rfl (y_len_slice rfl Tryz.underlying22) rfl ?_
    refine wl_gy 13 rfl rfl (y_leq rfl rfl) rfl ?_
    refine wl_y (y_pickt rfl rfl) rfl ?_
    refine wl_yask (y_move rfl) rfl (fun t1 => ?_) (fun t1 => ?_)
    · skip
      refine wl_gy 19 rfl rfl (y_fieldAddr (o := 2) (s := 1) (off := 0) (o' := 2) rfl Tryz.underlying25 rfl (by kernel_rfl) rfl rfl) rfl ?_
      refine wl_gy 19 rfl rfl (y_load1 rfl Tryz.underlying22 rfl (Bg3.get (i := 2) rfl)) rfl ?_
      refine wl_gy 19 rfl rfl (y_len_slice rfl Tryz.underlying22) rfl ?_
      refine wl_gy 19 rfl rfl (y_leq rfl rfl) rfl ?_
      refine wl_y (y_pickt rfl rfl) rfl ?_
      refine wl_yask (y_move rfl) rfl (fun t2 => ?_) (fun t2 => ?_)
      · skip
        refine wl_gy 25 rfl rfl (y_fieldAddr (o := 4) (s := 1) (off := 0) (o' := 4) rfl Tryz.underlying25 rfl (by kernel_rfl) rfl rfl) rfl ?_
        refine wl_gy 25 rfl rfl (y_load1 rfl Tryz.underlying22 rfl (Bg3.get (i := 4) rfl)) rfl ?_
        refine wl_gy 25 rfl rfl (y_len_slice rfl Tryz.underlying22) rfl ?_
        refine wl_gy 25 rfl rfl (y_leq rfl rfl) rfl ?_
        refine wl_y (y_pickt rfl rfl) rfl ?_
        refine wl_yask (y_move rfl) rfl (fun t3 => ?_) (fun t3 => ?_)
        · skip
          refine wl_gy 31 rfl rfl (y_fieldAddr (o := 5) (s := 1) (off := 0) (o' := 5) rfl Tryz.underlying25 rfl (by kernel_rfl) rfl rfl) rfl ?_
          refine wl_gy 31 rfl rfl (y_load1 rfl Tryz.underlying22 rfl (Bg3.get (i := 5) rfl)) rfl ?_
          refine wl_gy 31 rfl rfl (y_len_slice rfl Tryz.underlying22) rfl ?_
          refine wl_gy 31 rfl rfl (y_leq rfl rfl) rfl ?_
          refine wl_y (y_pickt rfl rfl) rfl ?_
          refine wl_yask (y_move rfl) rfl (fun t4 => ?_) (fun t4 => ?_)
          · skip
            refine wl_gy 37 rfl rfl (y_fieldAddr (o := 0) (s := 1) (off := 0) (o' := 0) rfl Tryz.underlying111 rfl (by kernel_rfl) rfl rfl) rfl ?_
            refine wl_gy 37 rfl rfl (y_load1 rfl Tryz.underlying22 rfl (Bg4.get (i := 0) rfl)) rfl ?_
            refine wl_gy 37 rfl rfl (y_len_slice rfl Tryz.underlying22) rfl ?_
            refine wl_gy 37 rfl rfl (y_leq rfl rfl) rfl ?_
            refine wl_y (y_pickt rfl rfl) rfl ?_
            refine wl_yask (y_move rfl) rfl (fun t5 => ?_) (fun t5 => ?_)
            · skip
              refine wl_gy 43 rfl rfl (y_fieldAddr (o := 1) (s := 1) (off := 0) (o' := 1) rfl Tryz.underlying111 rfl (by kernel_rfl) rfl rfl) rfl ?_
              refine wl_gy 43 rfl rfl (y_load1 rfl Tryz.underlying22 rfl (Bg4.get (i := 1) rfl)) rfl ?_
              refine wl_gy 43 rfl rfl (y_len_slice rfl Tryz.underlying22) rfl ?_
              refine wl_gy 43 rfl rfl (y_leq rfl rfl) rfl ?_
              refine wl_y (y_pickt rfl rfl) rfl ?_
              refine wl_yask (y_move rfl) rfl (fun t6 => ?_) (fun t6 => ?_)
              · skip
                refine wl_gy 49 rfl rfl (y_fieldAddr (o := 2) (s := 1) (off := 0) (o' := 2) rfl Tryz.underlying111 rfl (by kernel_rfl) rfl rfl) rfl ?_
                refine wl_gy 49 rfl rfl (y_load1 rfl Tryz.underlying109 rfl (Bg4.get (i := 2) rfl)) rfl ?_
                refine wl_gy 49 rfl rfl (y_len_slice rfl Tryz.underlying109) rfl ?_
                refine wl_gy 49 rfl rfl (y_leq rfl rfl) rfl ?_
                refine wl_y (y_pickt rfl rfl) rfl ?_
                refine wl_y (y_assign rfl) rfl ?_
                refine wl_nil ?_
                refine wq_then_norm (hK3 ?_)
                refine wc_ret ?_
                refine hret rfl ?_
                exact ⟨ret_bool (by unfold Node.Small; omega), E⟩
              · skip
                refine wl_gno 49 rfl rfl rfl rfl ?_
                refine wl_gno 49 rfl rfl rfl rfl ?_
                refine wl_gno 49 rfl rfl rfl rfl ?_
                refine wl_gno 49 rfl rfl rfl rfl ?_
                refine wl_y (y_pickf rfl rfl) rfl ?_
                refine wl_y (y_assign rfl) rfl ?_
                refine wl_nil ?_
                refine wq_then_norm (hK3 ?_)
                refine wc_ret ?_
                refine hret rfl ?_
                exact ⟨ret_no fun h => by unfold Node.Small at h; omega, E⟩
            · skip
              refine wl_gno 43 rfl rfl rfl rfl ?_
              refine wl_gno 43 rfl rfl rfl rfl ?_
              refine wl_gno 43 rfl rfl rfl rfl ?_
              refine wl_gno 43 rfl rfl rfl rfl ?_
              refine wl_y (y_pickf rfl rfl) rfl ?_
              refine wl_y (y_move rfl) rfl ?_
              refine wl_gno 49 rfl rfl rfl rfl ?_
              refine wl_gno 49 rfl rfl rfl rfl ?_
              refine wl_gno 49 rfl rfl rfl rfl ?_
              refine wl_gno 49 rfl rfl rfl rfl ?_
              refine wl_y (y_pickf rfl rfl) rfl ?_
              refine wl_y (y_assign rfl) rfl ?_
              refine wl_nil ?_
              refine wq_then_norm (hK3 ?_)
              refine wc_ret ?_
              refine hret rfl ?_
              exact ⟨ret_no fun h => by unfold Node.Small at h; omega, E⟩
          · skip
            refine wl_gno 37 rfl rfl rfl rfl ?_
            refine wl_gno 37 rfl rfl rfl rfl ?_
            refine wl_gno 37 rfl rfl rfl rfl ?_
            refine wl_gno 37 rfl rfl rfl rfl ?_
            refine wl_y (y_pickf rfl rfl) rfl ?_
            refine wl_y (y_move rfl) rfl ?_
            refine wl_gno 43 rfl rfl rfl rfl ?_
            refine wl_gno 43 rfl rfl rfl rfl ?_
            refine wl_gno 43 rfl rfl rfl rfl ?_
            refine wl_gno 43 rfl rfl rfl rfl ?_
            refine wl_y (y_pickf rfl rfl) rfl ?_
            refine wl_y (y_move rfl) rfl ?_
            refine wl_gno 49 rfl rfl rfl rfl ?_
            refine wl_gno 49 rfl rfl rfl rfl ?_
            refine wl_gno 49 rfl rfl rfl rfl ?_
            refine wl_gno 49 rfl rfl rfl rfl ?_
            refine wl_y (y_pickf rfl rfl) rfl ?_
            refine wl_y (y_assign rfl) rfl ?_
            refine wl_nil ?_
            refine wq_then_norm (hK3 ?_)
            refine wc_ret ?_
            refine hret rfl ?_
            exact ⟨ret_no fun h => by unfold Node.Small at h; omega, E⟩
        · skip
          refine wl_gno 31 rfl rfl rfl rfl ?_
          refine wl_gno 31 rfl rfl rfl rfl ?_
          refine wl_gno 31 rfl rfl rfl rfl ?_
          refine wl_gno 31 rfl rfl rfl rfl ?_
          refine wl_y (y_pickf rfl rfl) rfl ?_
          refine wl_y (y_move rfl) rfl ?_
          refine wl_gno 37 rfl rfl rfl rfl ?_
          refine wl_gno 37 rfl rfl rfl rfl ?_
          refine wl_gno 37 rfl rfl rfl rfl ?_
          refine wl_gno 37 rfl rfl rfl rfl ?_
          refine wl_y (y_pickf rfl rfl) rfl ?_
          refine wl_y (y_move rfl) rfl ?_
          refine wl_gno 43 rfl rfl rfl rfl ?_
          refine wl_gno 43 rfl rfl rfl rfl ?_
          refine wl_gno 43 rfl rfl rfl rfl ?_
          refine wl_gno 43 rfl rfl rfl rfl ?_
          refine wl_y (y_pickf rfl rfl) rfl ?_
          refine wl_y (y_move rfl) rfl ?_
          refine wl_gno 49 rfl rfl rfl rfl ?_
          refine wl_gno 49 rfl rfl rfl rfl ?_
          refine wl_gno 49 rfl rfl rfl rfl ?_
          refine wl_gno 49 rfl rfl rfl rfl ?_
          refine wl_y (y_pickf rfl rfl) rfl ?_
          refine wl_y (y_assign rfl) rfl ?_
          refine wl_nil ?_
          refine wq_then_norm (hK3 ?_)
          refine wc_ret ?_
          refine hret rfl ?_
          exact ⟨ret_no fun h => by unfold Node.Small at h; omega, E⟩
      · skip
        refine wl_gno 25 rfl rfl rfl rfl ?_
        refine wl_gno 25 rfl rfl rfl rfl ?_
        refine wl_gno 25 rfl rfl rfl rfl ?_
        refine wl_gno 25 rfl rfl rfl rfl ?_
        refine wl_y (y_pickf rfl rfl) rfl ?_
        refine wl_y (y_move rfl) rfl ?_
        refine wl_gno 31 rfl rfl rfl rfl ?_
        refine wl_gno 31 rfl rfl rfl rfl ?_
        refine wl_gno 31 rfl rfl rfl rfl ?_
        refine wl_gno 31 rfl rfl rfl rfl ?_
        refine wl_y (y_pickf rfl rfl) rfl ?_
        refine wl_y (y_move rfl) rfl ?_
        refine wl_gno 37 rfl rfl rfl rfl ?_
        refine wl_gno 37 rfl rfl rfl rfl ?_
        refine wl_gno 37 rfl rfl rfl rfl ?_
        refine wl_gno 37 rfl rfl rfl rfl ?_
        refine wl_y (y_pickf rfl rfl) rfl ?_
        refine wl_y (y_move rfl) rfl ?_
        refine wl_gno 43 rfl rfl rfl rfl ?_
        refine wl_gno 43 rfl rfl rfl rfl ?_
        refine wl_gno 43 rfl rfl rfl rfl ?_
        refine wl_gno 43 rfl rfl rfl rfl ?_
        refine wl_y (y_pickf rfl rfl) rfl ?_
        refine wl_y (y_move rfl) rfl ?_
        refine wl_gno 49 rfl rfl rfl rfl ?_
        refine wl_gno 49 rfl rfl rfl rfl ?_
        refine wl_gno 49 rfl rfl rfl rfl ?_
        refine wl_gno 49 rfl rfl rfl rfl ?_
        refine wl_y (y_pickf rfl rfl) rfl ?_
        refine wl_y (y_assign rfl) rfl ?_
        refine wl_nil ?_
        refine wq_then_norm (hK3 ?_)
        refine wc_ret ?_
        refine hret rfl ?_
        exact ⟨ret_no fun h => by unfold Node.Small at h; omega, E⟩
    · skip
      refine wl_gno 19 rfl rfl rfl rfl ?_
      refine wl_gno 19 rfl rfl rfl rfl ?_
      refine wl_gno 19 rfl rfl rfl rfl ?_
      refine wl_gno 19 rfl rfl rfl rfl ?_
      refine wl_y (y_pickf rfl rfl) rfl ?_
      refine wl_y (y_move rfl) rfl ?_
      refine wl_gno 25 rfl rfl rfl rfl ?_
      refine wl_gno 25 rfl rfl rfl rfl ?_
      refine wl_gno 25 rfl rfl rfl rfl ?_
      refine wl_gno 25 rfl rfl rfl rfl ?_
      refine wl_y (y_pickf rfl rfl) rfl ?_
      refine wl_y (y_move rfl) rfl ?_
      refine wl_gno 31 rfl rfl rfl rfl ?_
      refine wl_gno 31 rfl rfl rfl rfl ?_
      refine wl_gno 31 rfl rfl rfl rfl ?_
      refine wl_gno 31 rfl rfl rfl rfl ?_
      refine wl_y (y_pickf rfl rfl) rfl ?_
      refine wl_y (y_move rfl) rfl ?_
      refine wl_gno 37 rfl rfl rfl rfl ?_
      refine wl_gno 37 rfl rfl rfl rfl ?_
      refine wl_gno 37 rfl rfl rfl rfl ?_
      refine wl_gno 37 rfl rfl rfl rfl ?_
      refine wl_y (y_pickf rfl rfl) rfl ?_
      refine wl_y (y_move rfl) rfl ?_
      refine wl_gno 43 rfl rfl rfl rfl ?_
      refine wl_gno 43 rfl rfl rfl rfl ?_
      refine wl_gno 43 rfl rfl rfl rfl ?_
      refine wl_gno 43 rfl rfl rfl rfl ?_
      refine wl_y (y_pickf rfl rfl) rfl ?_
      refine wl_y (y_move rfl) rfl ?_
      refine wl_gno 49 rfl rfl rfl rfl ?_
      refine wl_gno 49 rfl rfl rfl rfl ?_
      refine wl_gno 49 rfl rfl rfl rfl ?_
      refine wl_gno 49 rfl rfl rfl rfl ?_
      refine wl_y (y_pickf rfl rfl) rfl ?_
      refine wl_y (y_assign rfl) rfl ?_
      refine wl_nil ?_
      refine wq_then_norm (hK3 ?_)
      refine wc_ret ?_
      refine hret rfl ?_
      exact ⟨ret_no fun h => by unfold Node.Small at h; omega, E⟩
  · skip
    refine wl_gno 13 rfl rfl rfl rfl ?_
    refine wl_gno 13 rfl rfl rfl rfl ?_
    refine wl_gno 13 rfl rfl rfl rfl ?_
    refine wl_gno 13 rfl rfl rfl rfl ?_
    refine wl_y (y_pickf rfl rfl) rfl ?_
    refine wl_y (y_move rfl) rfl ?_
    refine wl_gno 19 rfl rfl rfl rfl ?_
    refine wl_gno 19 rfl rfl rfl rfl ?_
    refine wl_gno 19 rfl rfl rfl rfl ?_
    refine wl_gno 19 rfl rfl rfl rfl ?_
    refine wl_y (y_pickf rfl rfl) rfl ?_
    refine wl_y (y_move rfl) rfl ?_
    refine wl_gno 25 rfl rfl rfl rfl ?_
    refine wl_gno 25 rfl rfl rfl rfl ?_
    refine wl_gno 25 rfl rfl rfl rfl ?_
    refine wl_gno 25 rfl rfl rfl rfl ?_
    refine wl_y (y_pickf rfl rfl) rfl ?_
    refine wl_y (y_move rfl) rfl ?_
    refine wl_gno 31 rfl rfl rfl rfl ?_
    refine wl_gno 31 rfl rfl rfl rfl ?_
    refine wl_gno 31 rfl rfl rfl rfl ?_
    refine wl_gno 31 rfl rfl rfl rfl ?_
    refine wl_y (y_pickf rfl rfl) rfl ?_
    refine wl_y (y_move rfl) rfl ?_
    refine wl_gno 37 rfl rfl rfl rfl ?_
    refine wl_gno 37 rfl rfl rfl rfl ?_
    refine wl_gno 37 rfl rfl rfl rfl ?_
    refine wl_gno 37 rfl rfl rfl rfl ?_
    refine wl_y (y_pickf rfl rfl) rfl ?_
    refine wl_y (y_move rfl) rfl ?_
    refine wl_gno 43 rfl rfl rfl rfl ?_
    refine wl_gno 43 rfl rfl rfl rfl ?_
    refine wl_gno 43 rfl rfl rfl rfl ?_
    refine wl_gno 43 rfl rfl rfl rfl ?_
    refine wl_y (y_pickf rfl rfl) rfl ?_
    refine wl_y (y_move rfl) rfl ?_
    refine wl_gno 49 rfl rfl rfl rfl ?_
    refine wl_gno 49 rfl rfl rfl rfl ?_
    refine wl_gno 49 rfl rfl rfl rfl ?_
    refine wl_gno 49 rfl rfl rfl rfl ?_
    refine wl_y (y_pickf rfl rfl) rfl ?_
    refine wl_y (y_assign rfl) rfl ?_
    refine wl_nil ?_
    refine wq_then_norm (hK3 ?_)
    refine wc_ret ?_
    refine hret rfl ?_
    exact ⟨ret_no fun h => by unfold Node.Small at h; omega, E⟩
namespace Nd
end Nd
end Go.Proofs.YtpgalbgonmclaaaGreat
