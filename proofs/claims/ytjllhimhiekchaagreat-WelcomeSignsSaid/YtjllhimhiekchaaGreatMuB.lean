/- Infos, welcomes and a guest's secrets of bytes: what msg hands back. No conditions: contracts of the program's functions. -/
import Derived.Test.YtjllhimhiekchaaGreatMsV
/- Infos and welcomes: which may be, and their bytes: what msg hands back. No conditions: contracts of the program's functions. -/
namespace Go.Proofs.YtjllhimhiekchaaGreat
open Go.RowKit
attribute [local irreducible] Y Ef WL WC WK WQ WM OpM WN WF OpN WJ OpJ WG OpG
open Wire Nd M20
section
variable {cs : Array Value} {i : Inf} {x : Wel} {g : Nat} {t : TypeId}
theorem rightInfo_any (w : World) (H : InfAt w cs i) :
  Calls Tryz.prog 118 #[.agg cs] w fun e w' => e = .returned (.bool (decide (okInf i))) ∧ Ext w w' := by
 obtain ⟨gr, tr, u, tg, sg, rfl, he, hz, a, b, c, d, k⟩ := H
 have n1 := a.1; have n2 := b.1; have n3 := c.1; have n4 := d.1; have n5 := k.1
 have E := Ext.refl w
 refine vc_enter1 39 Tryz.func118 rfl rfl rfl rfl ?_
 intro Q hret
 refine wc_seq ?_; intro K1 hK1
 refine wc_region ?_
 refine wl_ef (ef_box rfl rfl) rfl ?_
 rintro _ wB1 ⟨gB1, rfl, B1, hgB1, ex⟩
 have lB1 := B1.lt; have zB1 := ex.size
 replace E := E.ext ex
 refine wl_y (y_assign rfl) rfl ?_
 refine wl_nil ?_
 refine wq_then_norm (hK1 ?_)
 refine wc_seq ?_; intro K2 hK2
 refine wc_region ?_
 refine wl_y (y_fieldAddr (o := 0) (s := 4) (off := 0) (o' := 0) rfl Tryz.underlying42 rfl (by kernel_rfl) rfl rfl) rfl ?_
 refine wl_y (y_loadx (o := 0) (s := 4) rfl Tryz.underlying40 rfl (by kernel_rfl) B1 rfl) rfl ?_
 refine wl_ef (ef_alloc (Z := #[.slice none 0 0, .int .u64 0, .slice none 0 0, .slice none 0 0]) (by kernel_rfl)) rfl ?_
 rintro _ wA3 ⟨gB3, rfl, D3, hgB3, exA⟩
 refine wl_ef (ef_storeP (o := 0) rfl rfl (by kernel_rfl) D3 (Nat.le_of_ble_eq_true rfl) (all_ones rfl)) rfl ?_
 rintro _ wB3 ⟨rfl, B3, cg⟩
 have ex := exA.chg cg hgB3; clear cg exA D3
 have lB3 := B3.lt; have zB3 := ex.size
 replace E := E.ext ex
 replace B1 := B1.ext ex
 refine wl_nil ?_
 refine wq_then_norm (hK2 ?_)
 refine wc_seq ?_; intro K3 hK3
 refine wc_region ?_
 refine wl_y (y_fieldAddr (o := 0) (s := 1) (off := 0) (o' := 0) rfl Tryz.underlying40 rfl (by kernel_rfl) rfl rfl) rfl ?_
 refine wl_y (y_load1 rfl Tryz.underlying23 rfl (B3.get (i := 0) rfl)) rfl ?_
 refine wl_y (y_len_slice rfl Tryz.underlying23) rfl ?_
 refine wl_yask (y_leq rfl rfl) rfl (fun q1 => ?_) (fun q1 => ?_)
 ·skip
  refine wl_y (y_move rfl) rfl ?_
  refine wl_gy 10 rfl rfl (y_fieldAddr (o := 2) (s := 1) (off := 0) (o' := 2) rfl Tryz.underlying40 rfl (by kernel_rfl) rfl rfl) rfl ?_
  refine wl_gy 10 rfl rfl (y_load1 rfl Tryz.underlying23 rfl (B3.get (i := 2) rfl)) rfl ?_
  refine wl_gy 10 rfl rfl (y_len_slice rfl Tryz.underlying23) rfl ?_
  refine wl_gyask 10 rfl rfl (y_eql rfl rfl) rfl (fun q2 => ?_) (fun q2 => ?_)
  ·skip
   refine wl_y (y_pickt rfl rfl) rfl ?_
   refine wl_y (y_move rfl) rfl ?_
   refine wl_gy 16 rfl rfl (y_fieldAddr (o := 3) (s := 1) (off := 0) (o' := 3) rfl Tryz.underlying40 rfl (by kernel_rfl) rfl rfl) rfl ?_
   refine wl_gy 16 rfl rfl (y_load1 rfl Tryz.underlying23 rfl (B3.get (i := 3) rfl)) rfl ?_
   refine wl_gy 16 rfl rfl (y_len_slice rfl Tryz.underlying23) rfl ?_
   refine wl_gyask 16 rfl rfl (y_eql rfl rfl) rfl (fun q3 => ?_) (fun q3 => ?_)
   ·skip
    refine wl_y (y_pickt rfl rfl) rfl ?_
    refine wl_y (y_move rfl) rfl ?_
    refine wl_gy 22 rfl rfl (y_fieldAddr (o := 4) (s := 1) (off := 0) (o' := 4) rfl Tryz.underlying42 rfl (by kernel_rfl) rfl rfl) rfl ?_
    refine wl_gy 22 rfl rfl (y_load1 rfl Tryz.underlying23 rfl (B1.get (i := 4) rfl)) rfl ?_
    refine wl_gy 22 rfl rfl (y_len_slice rfl Tryz.underlying23) rfl ?_
    refine wl_gyask 22 rfl rfl (y_eql rfl rfl) rfl (fun q4 => ?_) (fun q4 => ?_)
    ·skip
     refine wl_y (y_pickt rfl rfl) rfl ?_
     refine wl_y (y_move rfl) rfl ?_
     refine wl_gy 28 rfl rfl (y_fieldAddr (o := 5) (s := 1) (off := 0) (o' := 5) rfl Tryz.underlying42 rfl (by kernel_rfl) rfl rfl) rfl ?_
     refine wl_gy 28 rfl rfl (y_load1 rfl Tryz.underlying3 rfl (B1.get (i := 5) rfl)) rfl ?_
     refine wl_gcall 28 rfl rfl Tryz.func194 rfl rfl rfl (place_any _ _) rfl ?_
     rintro e w2 ⟨rfl, ex⟩
     refine ⟨_, rfl, ?_⟩
     replace E := E.ext ex
     replace B1 := B1.ext ex
     replace B3 := B3.ext ex
     skip
     refine wl_y (y_pickt rfl rfl) rfl ?_
     refine wl_yaskb (y_move rfl) rfl (fun q5 => ?_) (fun q5 => ?_)
     ·skip
      refine wl_gy 33 rfl rfl (y_fieldAddr (o := 6) (s := 1) (off := 0) (o' := 6) rfl Tryz.underlying42 rfl (by kernel_rfl) rfl rfl) rfl ?_
      refine wl_gy 33 rfl rfl (y_load1 rfl Tryz.underlying23 rfl (B1.get (i := 6) rfl)) rfl ?_
      refine wl_gy 33 rfl rfl (y_len_slice rfl Tryz.underlying23) rfl ?_
      refine wl_gy 33 rfl rfl (y_eql rfl rfl) rfl ?_
      refine wl_y (y_pickt rfl rfl) rfl ?_
      refine wl_y (y_assign rfl) rfl ?_
      refine wl_nil ?_
      refine wq_then_norm (hK3 ?_)
      refine wc_ret ?_
      refine hret rfl ?_
      exact ⟨ret_bool ⟨fun h => ⟨by omega, by omega, by omega, by omega, (by simpa using q5), by omega⟩, fun h => by have := h.2.2.2.2.2; omega⟩, E⟩
     ·skip
      refine wl_gno 33 rfl rfl rfl rfl ?_
      refine wl_gno 33 rfl rfl rfl rfl ?_
      refine wl_gno 33 rfl rfl rfl rfl ?_
      refine wl_gno 33 rfl rfl rfl rfl ?_
      refine wl_y (y_pickf rfl rfl) rfl ?_
      refine wl_y (y_assign rfl) rfl ?_
      refine wl_nil ?_
      refine wq_then_norm (hK3 ?_)
      refine wc_ret ?_
      refine hret rfl ?_
      exact ⟨ret_no fun h => (by rw [decide_eq_true h.2.2.2.2.1] at q5; cases q5), E⟩
    ·skip
     refine wl_y (y_pickt rfl rfl) rfl ?_
     refine wl_y (y_move rfl) rfl ?_
     refine wl_gno 28 rfl rfl rfl rfl ?_
     refine wl_gno 28 rfl rfl rfl rfl ?_
     refine wl_gno 28 rfl rfl rfl rfl ?_
     refine wl_y (y_pickf rfl rfl) rfl ?_
     refine wl_y (y_move rfl) rfl ?_
     refine wl_gno 33 rfl rfl rfl rfl ?_
     refine wl_gno 33 rfl rfl rfl rfl ?_
     refine wl_gno 33 rfl rfl rfl rfl ?_
     refine wl_gno 33 rfl rfl rfl rfl ?_
     refine wl_y (y_pickf rfl rfl) rfl ?_
     refine wl_y (y_assign rfl) rfl ?_
     refine wl_nil ?_
     refine wq_then_norm (hK3 ?_)
     refine wc_ret ?_
     refine hret rfl ?_
     exact ⟨ret_no fun h => by have := h.2.2.2.1; omega, E⟩
   ·skip
    refine wl_y (y_pickt rfl rfl) rfl ?_
    refine wl_y (y_move rfl) rfl ?_
    refine wl_gno 22 rfl rfl rfl rfl ?_
    refine wl_gno 22 rfl rfl rfl rfl ?_
    refine wl_gno 22 rfl rfl rfl rfl ?_
    refine wl_gno 22 rfl rfl rfl rfl ?_
    refine wl_y (y_pickf rfl rfl) rfl ?_
    refine wl_y (y_move rfl) rfl ?_
    refine wl_gno 28 rfl rfl rfl rfl ?_
    refine wl_gno 28 rfl rfl rfl rfl ?_
    refine wl_gno 28 rfl rfl rfl rfl ?_
    refine wl_y (y_pickf rfl rfl) rfl ?_
    refine wl_y (y_move rfl) rfl ?_
    refine wl_gno 33 rfl rfl rfl rfl ?_
    refine wl_gno 33 rfl rfl rfl rfl ?_
    refine wl_gno 33 rfl rfl rfl rfl ?_
    refine wl_gno 33 rfl rfl rfl rfl ?_
    refine wl_y (y_pickf rfl rfl) rfl ?_
    refine wl_y (y_assign rfl) rfl ?_
    refine wl_nil ?_
    refine wq_then_norm (hK3 ?_)
    refine wc_ret ?_
    refine hret rfl ?_
    exact ⟨ret_no fun h => by have := h.2.2.1; omega, E⟩
  ·skip
   refine wl_y (y_pickt rfl rfl) rfl ?_
   refine wl_y (y_move rfl) rfl ?_
   refine wl_gno 16 rfl rfl rfl rfl ?_
   refine wl_gno 16 rfl rfl rfl rfl ?_
   refine wl_gno 16 rfl rfl rfl rfl ?_
   refine wl_gno 16 rfl rfl rfl rfl ?_
   refine wl_y (y_pickf rfl rfl) rfl ?_
   refine wl_y (y_move rfl) rfl ?_
   refine wl_gno 22 rfl rfl rfl rfl ?_
   refine wl_gno 22 rfl rfl rfl rfl ?_
   refine wl_gno 22 rfl rfl rfl rfl ?_
   refine wl_gno 22 rfl rfl rfl rfl ?_
   refine wl_y (y_pickf rfl rfl) rfl ?_
   refine wl_y (y_move rfl) rfl ?_
   refine wl_gno 28 rfl rfl rfl rfl ?_
   refine wl_gno 28 rfl rfl rfl rfl ?_
   refine wl_gno 28 rfl rfl rfl rfl ?_
   refine wl_y (y_pickf rfl rfl) rfl ?_
   refine wl_y (y_move rfl) rfl ?_
   refine wl_gno 33 rfl rfl rfl rfl ?_
   refine wl_gno 33 rfl rfl rfl rfl ?_
   refine wl_gno 33 rfl rfl rfl rfl ?_
   refine wl_gno 33 rfl rfl rfl rfl ?_
   refine wl_y (y_pickf rfl rfl) rfl ?_
   refine wl_y (y_assign rfl) rfl ?_
   refine wl_nil ?_
   refine wq_then_norm (hK3 ?_)
   refine wc_ret ?_
   refine hret rfl ?_
   exact ⟨ret_no fun h => by have := h.2.1; omega, E⟩
 ·skip
  refine wl_y (y_move rfl) rfl ?_
  refine wl_gno 10 rfl rfl rfl rfl ?_
  refine wl_gno 10 rfl rfl rfl rfl ?_
  refine wl_gno 10 rfl rfl rfl rfl ?_
  refine wl_gno 10 rfl rfl rfl rfl ?_
  refine wl_y (y_pickf rfl rfl) rfl ?_
  refine wl_y (y_move rfl) rfl ?_
  refine wl_gno 16 rfl rfl rfl rfl ?_
  refine wl_gno 16 rfl rfl rfl rfl ?_
  refine wl_gno 16 rfl rfl rfl rfl ?_
  refine wl_gno 16 rfl rfl rfl rfl ?_
  refine wl_y (y_pickf rfl rfl) rfl ?_
  refine wl_y (y_move rfl) rfl ?_
  refine wl_gno 22 rfl rfl rfl rfl ?_
  refine wl_gno 22 rfl rfl rfl rfl ?_
  refine wl_gno 22 rfl rfl rfl rfl ?_
  refine wl_gno 22 rfl rfl rfl rfl ?_
  refine wl_y (y_pickf rfl rfl) rfl ?_
  refine wl_y (y_move rfl) rfl ?_
  refine wl_gno 28 rfl rfl rfl rfl ?_
  refine wl_gno 28 rfl rfl rfl rfl ?_
  refine wl_gno 28 rfl rfl rfl rfl ?_
  refine wl_y (y_pickf rfl rfl) rfl ?_
  refine wl_y (y_move rfl) rfl ?_
  refine wl_gno 33 rfl rfl rfl rfl ?_
  refine wl_gno 33 rfl rfl rfl rfl ?_
  refine wl_gno 33 rfl rfl rfl rfl ?_
  refine wl_gno 33 rfl rfl rfl rfl ?_
  refine wl_y (y_pickf rfl rfl) rfl ?_
  refine wl_y (y_assign rfl) rfl ?_
  refine wl_nil ?_
  refine wq_then_norm (hK3 ?_)
  refine wc_ret ?_
  refine hret rfl ?_
  exact ⟨ret_no fun h => by have := h.1; omega, E⟩
theorem infText_any (w : World) (H : InfAt w cs i) (hs : i.ctx.Small) (ht : i.tag.length ≤ 1000) :
  Calls Tryz.prog 131 #[.agg cs] w fun e w' => ∃ A' k c', e = .returned (.slice A' k c') ∧ Row w' w.heap.size 5 A' k c' ((infT i).map bv) ∧ k ≤ 2000 ∧ Ext w w' := by
 have HC := (InfC.ctx H).at
 obtain ⟨gr, tr, u, tg, sg, rfl, he, hz, a, b, c, d, k⟩ := H
 have n4 := d.1
 have E := Ext.refl w
 refine vc_enter1 15 Tryz.func131 rfl rfl rfl rfl ?_
 intro Q hret
 refine wc_seq ?_; intro K1 hK1
 refine wc_region ?_
 refine wl_ef (ef_box rfl rfl) rfl ?_
 rintro _ wB1 ⟨gB1, rfl, B1, hgB1, ex⟩
 have lB1 := B1.lt; have zB1 := ex.size
 replace E := E.ext ex
 refine wl_y (y_assign rfl) rfl ?_
 refine wl_nil ?_
 refine wq_then_norm (hK1 ?_)
 refine wc_seq ?_; intro K2 hK2
 have X := Ext.refl wB1
 have Bo := B1
 refine wc_drawG [gB1] (by kernel_rfl) 13 rfl ?_; intro wd1 ex hd1
 replace E := E.ext ex
 replace B1 := B1.ext ex
 replace X := X.ext ex
 refine wg_y 0 rfl (by kernel_rfl) (fun wr (kr : Kept [gB1] _ wr) => y_fieldAddr (o := 0) (s := 4) (off := 0) (o' := 0) rfl Tryz.underlying42 rfl (by kernel_rfl) rfl rfl) rfl ?_
 refine wg_y 1 rfl (by kernel_rfl) (fun wr (kr : Kept [gB1] _ wr) => y_loadx (o := 0) (s := 4) rfl Tryz.underlying40 rfl (by kernel_rfl) (B1.kep kr) rfl) rfl ?_
 refine wg_y 5 rfl (by kernel_rfl) (fun wr (kr : Kept [gB1] _ wr) => y_fieldAddr (o := 4) (s := 1) (off := 0) (o' := 4) rfl Tryz.underlying42 rfl (by kernel_rfl) rfl rfl) rfl ?_
 refine wg_y 6 rfl (by kernel_rfl) (fun wr (kr : Kept [gB1] _ wr) => y_load1 rfl Tryz.underlying23 rfl ((B1.kep kr).get (i := 4) rfl)) rfl ?_
 refine wg_y 8 rfl (by kernel_rfl) (fun wr (kr : Kept [gB1] _ wr) => y_fieldAddr (o := 5) (s := 1) (off := 0) (o' := 5) rfl Tryz.underlying42 rfl (by kernel_rfl) rfl rfl) rfl ?_
 refine wg_y 9 rfl (by kernel_rfl) (fun wr (kr : Kept [gB1] _ wr) => y_load1 rfl Tryz.underlying3 rfl ((B1.kep kr).get (i := 5) rfl)) rfl ?_
 refine wg_y 10 rfl (by kernel_rfl) (fun wr (kr : Kept [gB1] _ wr) => y_conv rfl Tryz.underlying3 Tryz.underlying38 (w64_wrap i.frm)) rfl ?_
 refine wg_two 2 3 (by kernel_rfl) ?_ ?_
 ·skip
  have hz2 := X.size
  refine og_call rfl Tryz.func108 rfl rfl rfl (ctxBytesR_any _ _ _ (HC.ext E) hs) rfl ?_
  rintro e w2 ⟨A2, k2, c2, rfl, R2, hk2, ex⟩
  refine ⟨_, rfl, Kept.ext ex (kin B1.lt kno), ?_⟩
  replace E := E.ext ex
  replace B1 := B1.ext ex
  replace X := X.ext ex
  replace R2 := R2.lower hz2
  refine wg_one 3 (by kernel_rfl) ?_; refine og_ef rfl (ef_lit (z := .int .u8 0) Tryz.underlying23 (by kernel_rfl) rfl rfl rfl rfl rfl) rfl ?_
  rintro _ w3 ⟨g3, rfl, B3, hg3, ex⟩
  refine ⟨Kept.ext ex (kin B1.lt kno), ?_⟩
  replace E := E.ext ex
  replace B1 := B1.ext ex
  replace X := X.ext ex
  replace R2 := R2.ext ex
  refine wg_one 4 (by kernel_rfl) ?_; refine og_ef rfl (ef_app rfl rfl eltB R2 (At.blk (vs := [bv 0]) (B3.congr (by rfl))) rfl (by intro u hu; simp only [List.mem_singleton] at hu; subst hu; rfl) (by omega) (by omega) X.size) rfl ?_
  rintro _ w4 ⟨A4, c4, rfl, R4, be, gr4, hgl⟩
  have kp := Kept.own gr4 (kin B1.lt kno) (kin (R2.sepLo Bo.lt) kno)
  refine ⟨kp, ?_⟩
  replace B1 := B1.kep kp
  replace X := X.trans be; replace E := E.trans ⟨be.os, be.tape, be.output, be.size, fun k hk => be.block k (by omega)⟩
  replace R4 : Row _ _ _ _ _ _ ((ctxBytes i.ctx ++ [0]).map bv) := R4.congr rfl (by simp)
  have hz7 := X.size
  refine wg_one 7 (by kernel_rfl) ?_; refine og_call rfl Tryz.func94 rfl rfl rfl (mvec_any A4 tg.A _ c4 tg.n tg.c _ _ _ R4.bs (by omega) (Bs.ext d E) (by omega)) rfl ?_
  rintro e w5 ⟨A5, k5, c5, rfl, R5, hk5, ex⟩
  refine ⟨_, rfl, Kept.ext ex (kin B1.lt kno), ?_⟩
  replace E := E.ext ex
  replace B1 := B1.ext ex
  replace X := X.ext ex
  replace R4 := R4.ext ex
  have hl5 := lsz_le tg.n; replace R5 := R5.lower hz7
  have hz8 := X.size
  refine wg_one 11 (by kernel_rfl) ?_; refine og_call rfl Tryz.func174 rfl rfl rfl (mnum_any A5 k5 c5 4 (w64 i.frm) _ _ R5.bs (by omega) (by omega) (w64_lt _)) rfl ?_
  rintro e w6 ⟨A6, c6, rfl, R6, ex⟩
  refine ⟨_, rfl, Kept.ext ex (kin B1.lt kno), ?_⟩
  replace E := E.ext ex
  replace B1 := B1.ext ex
  replace X := X.ext ex
  replace R5 := R5.ext ex
  refine wg_y 12 rfl (by kernel_rfl) (fun wr (kr : Kept [gB1] _ wr) => y_assign rfl) rfl ?_
  refine wg_done (by kernel_rfl) ?_
  refine wq_nop ?_
  refine wq_then_norm (hK2 ?_)
  refine wc_ret ?_
  refine hret rfl ?_
  exact ⟨A6, _, c6, rfl, ((R6.lower hz8).lower zB1).congr rfl (by unfold infT; rfl), by omega, E⟩
 ·skip
  refine og_ef rfl (ef_lit (z := .int .u8 0) Tryz.underlying23 (by kernel_rfl) rfl rfl rfl rfl rfl) rfl ?_
  rintro _ w3 ⟨g3, rfl, B3, hg3, ex⟩
  refine ⟨Kept.ext ex (kin B1.lt kno), ?_⟩
  replace E := E.ext ex
  replace B1 := B1.ext ex
  replace X := X.ext ex
  have hz2 := X.size
  refine wg_one 2 (by kernel_rfl) ?_; refine og_call rfl Tryz.func108 rfl rfl rfl (ctxBytesR_any _ _ _ (HC.ext E) hs) rfl ?_
  rintro e w2 ⟨A2, k2, c2, rfl, R2, hk2, ex⟩
  refine ⟨_, rfl, Kept.ext ex (kin B1.lt kno), ?_⟩
  replace E := E.ext ex
  replace B1 := B1.ext ex
  replace X := X.ext ex
  replace B3 := B3.ext ex
  replace R2 := R2.lower hz2
  refine wg_one 4 (by kernel_rfl) ?_; refine og_ef rfl (ef_app rfl rfl eltB R2 (At.blk (vs := [bv 0]) (B3.congr (by rfl))) rfl (by intro u hu; simp only [List.mem_singleton] at hu; subst hu; rfl) (by omega) (by omega) X.size) rfl ?_
  rintro _ w4 ⟨A4, c4, rfl, R4, be, gr4, hgl⟩
  have kp := Kept.own gr4 (kin B1.lt kno) (kin (R2.sepLo Bo.lt) kno)
  refine ⟨kp, ?_⟩
  replace B1 := B1.kep kp
  replace X := X.trans be; replace E := E.trans ⟨be.os, be.tape, be.output, be.size, fun k hk => be.block k (by omega)⟩
  replace R4 : Row _ _ _ _ _ _ ((ctxBytes i.ctx ++ [0]).map bv) := R4.congr rfl (by simp)
  have hz7 := X.size
  refine wg_one 7 (by kernel_rfl) ?_; refine og_call rfl Tryz.func94 rfl rfl rfl (mvec_any A4 tg.A _ c4 tg.n tg.c _ _ _ R4.bs (by omega) (Bs.ext d E) (by omega)) rfl ?_
  rintro e w5 ⟨A5, k5, c5, rfl, R5, hk5, ex⟩
  refine ⟨_, rfl, Kept.ext ex (kin B1.lt kno), ?_⟩
  replace E := E.ext ex
  replace B1 := B1.ext ex
  replace X := X.ext ex
  replace R4 := R4.ext ex
  have hl5 := lsz_le tg.n; replace R5 := R5.lower hz7
  have hz8 := X.size
  refine wg_one 11 (by kernel_rfl) ?_; refine og_call rfl Tryz.func174 rfl rfl rfl (mnum_any A5 k5 c5 4 (w64 i.frm) _ _ R5.bs (by omega) (by omega) (w64_lt _)) rfl ?_
  rintro e w6 ⟨A6, c6, rfl, R6, ex⟩
  refine ⟨_, rfl, Kept.ext ex (kin B1.lt kno), ?_⟩
  replace E := E.ext ex
  replace B1 := B1.ext ex
  replace X := X.ext ex
  replace R5 := R5.ext ex
  refine wg_y 12 rfl (by kernel_rfl) (fun wr (kr : Kept [gB1] _ wr) => y_assign rfl) rfl ?_
  refine wg_done (by kernel_rfl) ?_
  refine wq_nop ?_
  refine wq_then_norm (hK2 ?_)
  refine wc_ret ?_
  refine hret rfl ?_
  exact ⟨A6, _, c6, rfl, ((R6.lower hz8).lower zB1).congr rfl (by unfold infT; rfl), by omega, E⟩
theorem infoTextF (w : World) (B : Blk w g t cs) (H : InfAt w cs i) (hs : i.ctx.Small) (ht : i.tag.length ≤ 1000) :
  Calls Tryz.prog 138 #[.pointer (some ⟨g, 0, none⟩)] w fun e w' => ∃ A k c, e = .returned (.slice A k c) ∧ (Bs w' A k (infT i) ∧ k ≤ c ∧ k ≤ 2000) ∧ Ext w w' := by
 have HP := H
 obtain ⟨gr, tr, u, tg, sg, rfl, _⟩ := H
 have E := Ext.refl w
 refine vc_enter1 4 Tryz.func138 rfl rfl rfl rfl ?_
 intro Q hret
 refine wc_seq ?_; intro K1 hK1
 refine wc_region ?_
 refine wl_y (y_assign rfl) rfl ?_
 refine wl_nil ?_
 refine wq_then_norm (hK1 ?_)
 refine wc_seq ?_; intro K2 hK2
 refine wc_region ?_
 refine wl_y (y_loadx (o := 0) (s := 7) rfl Tryz.underlying42 rfl (by kernel_rfl) B rfl) rfl ?_
 refine wl_call Tryz.func131 rfl rfl rfl (infText_any _ (HP.ext E) hs ht) rfl ?_
 rintro e w2 ⟨A2, k2, c2, rfl, R2, hk2, ex⟩
 refine ⟨_, rfl, ?_⟩
 replace E := E.ext ex
 skip
 refine wl_y (y_assign rfl) rfl ?_
 refine wl_nil ?_
 refine wq_then_norm (hK2 ?_)
 refine wc_ret ?_
 refine hret rfl ?_
 exact ⟨A2, k2, c2, rfl, ⟨R2.bs, R2.cap, hk2⟩, E⟩
theorem InfoText_any (w : World) (H : InfAt w cs i) (hs : i.ctx.Small) (ht : i.tag.length ≤ 1000) :
  Calls Tryz.prog 69 #[.agg cs] w fun e w' => ∃ A k c z, e = .returned (.tuple #[.slice A k c, .int .u8 ((z : Nat) : Int)]) ∧ Told w' (okInf i) (infT i) A k z ∧ k ≤ c ∧ k ≤ 2000 ∧ Ext w w' := by
 have HP := H
 obtain ⟨gr, tr, u, tg, sg, rfl, _⟩ := H
 have E := Ext.refl w
 refine vc_enter2 10 Tryz.func69 rfl rfl rfl rfl ?_
 intro Q hret
 refine wc_seq ?_; intro K1 hK1
 refine wc_region ?_
 refine wl_ef (ef_box rfl rfl) rfl ?_
 rintro _ wB1 ⟨gB1, rfl, B1, hgB1, ex⟩
 have lB1 := B1.lt; have zB1 := ex.size
 replace E := E.ext ex
 refine wl_y (y_assign rfl) rfl ?_
 refine wl_y (y_assign rfl) rfl ?_
 refine wl_nil ?_
 refine wq_then_norm (hK1 ?_)
 refine wc_seq ?_; intro K2 hK2
 refine wc_region ?_
 refine wl_y (y_loadx (o := 0) (s := 7) rfl Tryz.underlying42 rfl (by kernel_rfl) B1 rfl) rfl ?_
 refine wl_call Tryz.func118 rfl rfl rfl (rightInfo_any _ (HP.ext E)) rfl ?_
 rintro e w2 ⟨rfl, ex⟩
 refine ⟨_, rfl, ?_⟩
 replace E := E.ext ex
 replace B1 := B1.ext ex
 skip
 refine wl_y (y_func (xs := [.tmp 1]) (vs := [.pointer (some ⟨gB1, 0, none⟩)]) rfl) rfl ?_
 refine wl_call Tryz.func90 rfl rfl rfl (told_any (us := [.pointer (some ⟨gB1, 0, none⟩)]) (Ψ := fun w A k c => Bs w A k (infT i) ∧ k ≤ c ∧ k ≤ 2000) _ Tryz.func138 rfl rfl (fun hok w1 e1 => infoTextF w1 (B1.ext e1) ((HP.ext E).ext e1) hs ht)) rfl ?_
 rintro e w3 ⟨A3, k3, c3, z3, rfl, T3, N3, ex⟩
 refine ⟨_, rfl, ?_⟩
 replace E := E.ext ex
 replace B1 := B1.ext ex
 skip
 refine wl_y (y_extract rfl rfl) rfl ?_
 refine wl_y (y_extract rfl rfl) rfl ?_
 refine wl_y (y_assign rfl) rfl ?_
 refine wl_y (y_assign rfl) rfl ?_
 refine wl_nil ?_
 refine wq_then_norm (hK2 ?_)
 refine wc_ret ?_
 refine hret rfl rfl ?_
 exact ⟨A3, k3, c3, z3, rfl, ⟨fun o => ⟨(T3 (decide_eq_true o)).1, (T3 (decide_eq_true o)).2.1⟩, fun o => ⟨(N3 (decide_eq_false o)).1, (N3 (decide_eq_false o)).2.2.1⟩⟩, (by by_cases o : okInf i; exact (T3 (decide_eq_true o)).2.2.1; have h := N3 (decide_eq_false o); omega), (by by_cases o : okInf i; exact (T3 (decide_eq_true o)).2.2.2; have h := N3 (decide_eq_false o); omega), E⟩
end
end Go.Proofs.YtjllhimhiekchaaGreat

namespace Go.Proofs.YtjllhimhiekchaaGreat
open Go.RowKit
attribute [local irreducible] Y Ef WL WC WK WQ WM OpM WN WF OpN WJ OpJ WG OpG
open Wire Nd M20
def zInfV : Array Value := infV nilH 0 nilH nilH nilH 0 nilH
section
variable {N3 M x gx gs gi base : Nat} {T : List Nat} {st : St}
end
def Inf.Fit (i : Inf) : Prop := i.ctx.grp.length ≤ 1000000 ∧ i.ctx.tree.length ≤ 1000000 ∧ i.ctx.trans.length ≤ 1000000 ∧ i.tag.length ≤ 1000000 ∧ i.sig.length ≤ 1000000
end Go.Proofs.YtjllhimhiekchaaGreat
