/- Whether parents and nodes are right, empty, or the same: what node and the reference answer. -/
import Derived.Test.YtopimmomkapdoaaGreatNdA
namespace Go.Proofs.YtopimmomkapdoaaGreat
open Go.RowKit
attribute [local irreducible] Y Ef WL WC WK WQ WM OpM WN WF OpN
def Leaf.Fit (l : Leaf) : Prop := l.box.length ≤ 1000000 ∧ l.sign.length ≤ 1000000 ∧ l.ident.length ≤ 1000000 ∧ l.parent.length ≤ 1000000 ∧ l.sig.length ≤ 1000000
def Par.Fit (p : Par) : Prop := p.box.length ≤ 1000000 ∧ p.hash.length ≤ 1000000 ∧ p.late.length ≤ 1000000
def Node.Fit (n : Node) : Prop := n.leaf.Fit ∧ n.par.Fit
theorem leaf_zero {l : Leaf} : l = Leaf.zero ↔ l.src = 0 ∧ l.box.length + l.sign.length + l.ident.length + l.parent.length + l.sig.length = 0 := by
  constructor
  · rintro rfl; exact ⟨rfl, rfl⟩
  · rintro ⟨h1, h2⟩
    obtain ⟨b, s, i, c, p, g⟩ := l
    simp only at h1 h2
    have e1 : b = [] := List.eq_nil_of_length_eq_zero (by omega)
    have e2 : s = [] := List.eq_nil_of_length_eq_zero (by omega)
    have e3 : i = [] := List.eq_nil_of_length_eq_zero (by omega)
    have e4 : p = [] := List.eq_nil_of_length_eq_zero (by omega)
    have e5 : g = [] := List.eq_nil_of_length_eq_zero (by omega)
    subst h1; subst e1; subst e2; subst e3; subst e4; subst e5; rfl
theorem par_zero {p : Par} : p = Par.zero ↔ p.box.length + p.hash.length + p.late.length = 0 := by
  constructor
  · rintro rfl; rfl
  · intro h
    obtain ⟨b, s, i⟩ := p
    simp only at h
    have e1 : b = [] := List.eq_nil_of_length_eq_zero (by omega)
    have e2 : s = [] := List.eq_nil_of_length_eq_zero (by omega)
    have e3 : i = [] := List.eq_nil_of_length_eq_zero (by omega)
    subst e1; subst e2; subst e3; rfl
theorem noLeaf_any {cs : Array Value} {l : Leaf} (w : World) (H : LeafAt w cs l) (hf : l.Fit) :
    Calls Tryz.prog 67 #[.agg cs] w fun e w' => e = .returned (.bool (decide (l = Leaf.zero))) ∧ Ext w w' := by
  obtain ⟨h0, h1, h2, h4, h5, rfl, hs, b0, b1, b2, b4, b5⟩ := H
  have l0 := b0.1; have l1 := b1.1; have l2 := b2.1; have l4 := b4.1; have l5 := b5.1
  obtain ⟨f0, f1, f2, f4, f5⟩ := hf
  have E := Ext.refl w
  refine vc_enter1 28 Tryz.func67 rfl rfl rfl rfl ?_
  intro Q hret
  refine wc_seq ?_; intro K1 hK1
  refine wc_region ?_
  refine wl_ef (ef_box rfl rfl) rfl ?_
  rintro _ wB1 ⟨gB1, rfl, B1, hgB1, ex⟩
  have lB1 := B1.lt; have zB1 := ex.size
  replace E := E.ext ex
  refine wl_y (y_assign rfl) rfl ?_
  refine wl_nil ?_
  refine wq_then_norm (hK1 ?_)
  refine wc_seq ?_; intro K2 hK2
  refine wc_region ?_
  refine wl_y (y_fieldAddr (o := 3) (s := 1) (off := 0) (o' := 3) rfl Tryz.underlying24 rfl (by kernel_rfl) rfl rfl) rfl ?_
  refine wl_y (y_load1 rfl Tryz.underlying5 rfl (B1.get (i := 3) rfl)) rfl ?_
  refine wl_yask (y_eql rfl rfl) rfl (fun q0 => ?_) (fun q0 => ?_)
  · skip
    refine wl_y (y_move rfl) rfl ?_
    refine wl_gy 6 rfl rfl (y_fieldAddr (o := 0) (s := 1) (off := 0) (o' := 0) rfl Tryz.underlying24 rfl (by kernel_rfl) rfl rfl) rfl ?_
    refine wl_gy 6 rfl rfl (y_load1 rfl Tryz.underlying22 rfl (B1.get (i := 0) rfl)) rfl ?_
    refine wl_gy 6 rfl rfl (y_len_slice rfl Tryz.underlying22) rfl ?_
    refine wl_gy 6 rfl rfl (y_fieldAddr (o := 1) (s := 1) (off := 0) (o' := 1) rfl Tryz.underlying24 rfl (by kernel_rfl) rfl rfl) rfl ?_
    refine wl_gy 6 rfl rfl (y_load1 rfl Tryz.underlying22 rfl (B1.get (i := 1) rfl)) rfl ?_
    refine wl_gy 6 rfl rfl (y_len_slice rfl Tryz.underlying22) rfl ?_
    refine wl_gy 6 rfl rfl (y_add rfl rfl (i64_ok (by omega) (by omega))) rfl ?_
    refine wl_gy 6 rfl rfl (y_fieldAddr (o := 2) (s := 1) (off := 0) (o' := 2) rfl Tryz.underlying24 rfl (by kernel_rfl) rfl rfl) rfl ?_
    refine wl_gy 6 rfl rfl (y_load1 rfl Tryz.underlying22 rfl (B1.get (i := 2) rfl)) rfl ?_
    refine wl_gy 6 rfl rfl (y_len_slice rfl Tryz.underlying22) rfl ?_
    refine wl_gy 6 rfl rfl (y_add rfl rfl (i64_ok (by omega) (by omega))) rfl ?_
    refine wl_gy 6 rfl rfl (y_fieldAddr (o := 4) (s := 1) (off := 0) (o' := 4) rfl Tryz.underlying24 rfl (by kernel_rfl) rfl rfl) rfl ?_
    refine wl_gy 6 rfl rfl (y_load1 rfl Tryz.underlying22 rfl (B1.get (i := 4) rfl)) rfl ?_
    refine wl_gy 6 rfl rfl (y_len_slice rfl Tryz.underlying22) rfl ?_
    refine wl_gy 6 rfl rfl (y_add rfl rfl (i64_ok (by omega) (by omega))) rfl ?_
    refine wl_gy 6 rfl rfl (y_fieldAddr (o := 5) (s := 1) (off := 0) (o' := 5) rfl Tryz.underlying24 rfl (by kernel_rfl) rfl rfl) rfl ?_
    refine wl_gy 6 rfl rfl (y_load1 rfl Tryz.underlying22 rfl (B1.get (i := 5) rfl)) rfl ?_
    refine wl_gy 6 rfl rfl (y_len_slice rfl Tryz.underlying22) rfl ?_
    refine wl_gy 6 rfl rfl (y_add rfl rfl (i64_ok (by omega) (by omega))) rfl ?_
    refine wl_gyask 6 rfl rfl (y_eql rfl rfl) rfl (fun q1 => ?_) (fun q1 => ?_)
    · skip
      refine wl_y (y_pickt rfl rfl) rfl ?_
      refine wl_y (y_assign rfl) rfl ?_
      refine wl_nil ?_
      refine wq_then_norm (hK2 ?_)
      refine wc_ret ?_
      refine hret rfl ?_
      exact ⟨ret_yes (leaf_zero.2 (by omega)), E⟩
    · skip
      refine wl_y (y_pickt rfl rfl) rfl ?_
      refine wl_y (y_assign rfl) rfl ?_
      refine wl_nil ?_
      refine wq_then_norm (hK2 ?_)
      refine wc_ret ?_
      refine hret rfl ?_
      exact ⟨ret_no fun h => by rw [leaf_zero] at h; omega, E⟩
  · skip
    refine wl_y (y_move rfl) rfl ?_
    refine wl_gno 6 rfl rfl rfl rfl ?_
    refine wl_gno 6 rfl rfl rfl rfl ?_
    refine wl_gno 6 rfl rfl rfl rfl ?_
    refine wl_gno 6 rfl rfl rfl rfl ?_
    refine wl_gno 6 rfl rfl rfl rfl ?_
    refine wl_gno 6 rfl rfl rfl rfl ?_
    refine wl_gno 6 rfl rfl rfl rfl ?_
    refine wl_gno 6 rfl rfl rfl rfl ?_
    refine wl_gno 6 rfl rfl rfl rfl ?_
    refine wl_gno 6 rfl rfl rfl rfl ?_
    refine wl_gno 6 rfl rfl rfl rfl ?_
    refine wl_gno 6 rfl rfl rfl rfl ?_
    refine wl_gno 6 rfl rfl rfl rfl ?_
    refine wl_gno 6 rfl rfl rfl rfl ?_
    refine wl_gno 6 rfl rfl rfl rfl ?_
    refine wl_gno 6 rfl rfl rfl rfl ?_
    refine wl_gno 6 rfl rfl rfl rfl ?_
    refine wl_gno 6 rfl rfl rfl rfl ?_
    refine wl_gno 6 rfl rfl rfl rfl ?_
    refine wl_gno 6 rfl rfl rfl rfl ?_
    refine wl_y (y_pickf rfl rfl) rfl ?_
    refine wl_y (y_assign rfl) rfl ?_
    refine wl_nil ?_
    refine wq_then_norm (hK2 ?_)
    refine wc_ret ?_
    refine hret rfl ?_
    exact ⟨ret_no fun h => by rw [leaf_zero] at h; omega, E⟩
theorem noParent_any {cs : Array Value} {p : Par} (w : World) (H : ParAt w cs p) (hf : p.Fit) :
    Calls Tryz.prog 68 #[.agg cs] w fun e w' => e = .returned (.bool (decide (p = Par.zero))) ∧ Ext w w' := by
  obtain ⟨h0, h1, h2, rfl, b0, b1, b2⟩ := H
  have l0 := b0.1; have l1 := b1.1; have l2 := b2.1
  obtain ⟨f0, f1, f2⟩ := hf
  have E := Ext.refl w
  refine vc_enter1 15 Tryz.func68 rfl rfl rfl rfl ?_
  intro Q hret
  refine wc_seq ?_; intro K1 hK1
  refine wc_region ?_
  refine wl_ef (ef_box rfl rfl) rfl ?_
  rintro _ wB1 ⟨gB1, rfl, B1, hgB1, ex⟩
  have lB1 := B1.lt; have zB1 := ex.size
  replace E := E.ext ex
  refine wl_y (y_assign rfl) rfl ?_
  refine wl_nil ?_
  refine wq_then_norm (hK1 ?_)
  refine wc_seq ?_; intro K2 hK2
  refine wc_region ?_
  refine wl_y (y_fieldAddr (o := 0) (s := 1) (off := 0) (o' := 0) rfl Tryz.underlying29 rfl (by kernel_rfl) rfl rfl) rfl ?_
  refine wl_y (y_load1 rfl Tryz.underlying22 rfl (B1.get (i := 0) rfl)) rfl ?_
  refine wl_y (y_len_slice rfl Tryz.underlying22) rfl ?_
  refine wl_y (y_fieldAddr (o := 1) (s := 1) (off := 0) (o' := 1) rfl Tryz.underlying29 rfl (by kernel_rfl) rfl rfl) rfl ?_
  refine wl_y (y_load1 rfl Tryz.underlying22 rfl (B1.get (i := 1) rfl)) rfl ?_
  refine wl_y (y_len_slice rfl Tryz.underlying22) rfl ?_
  refine wl_y (y_add rfl rfl (i64_ok (by omega) (by omega))) rfl ?_
  refine wl_y (y_fieldAddr (o := 2) (s := 1) (off := 0) (o' := 2) rfl Tryz.underlying29 rfl (by kernel_rfl) rfl rfl) rfl ?_
  refine wl_y (y_load1 rfl Tryz.underlying27 rfl (B1.get (i := 2) rfl)) rfl ?_
  refine wl_y (y_len_slice rfl Tryz.underlying27) rfl ?_
  refine wl_y (y_add rfl rfl (i64_ok (by omega) (by omega))) rfl ?_
  refine wl_yask (y_eql rfl rfl) rfl (fun q1 => ?_) (fun q1 => ?_)
  · skip
    refine wl_y (y_assign rfl) rfl ?_
    refine wl_nil ?_
    refine wq_then_norm (hK2 ?_)
    refine wc_ret ?_
    refine hret rfl ?_
    exact ⟨ret_yes (par_zero.2 (by omega)), E⟩
  · skip
    refine wl_y (y_assign rfl) rfl ?_
    refine wl_nil ?_
    refine wq_then_norm (hK2 ?_)
    refine wc_ret ?_
    refine hret rfl ?_
    exact ⟨ret_no fun h => by rw [par_zero] at h; omega, E⟩
theorem dropZ {zs : List Int} {k : Nat} (h : k < zs.length) : zs.drop k = zs.getD k 0 :: zs.drop (k + 1) := by
  rw [List.drop_eq_getElem_cons h]; simp [h]
theorem rightParent_any {cs : Array Value} {p : Par} (w : World) (H : ParAt w cs p) (hf : p.late.length ≤ 1100000000) :
    Calls Tryz.prog 69 #[.agg cs] w fun e w' => e = .returned (.bool (decide (okPar p))) ∧ Ext w w' := by
  obtain ⟨h0, h1, ⟨A2, n2, c2⟩, rfl, b0, b1, b2⟩ := H
  replace b2 : Zs w A2 n2 p.late := b2
  have l0 := b0.1; have l1 := b1.1; have l2 := b2.1
  have E := Ext.refl w
  obtain ⟨zs, hzs⟩ : ∃ zs, zs = p.late := ⟨_, rfl⟩
  rw [← hzs] at b2 l2
  have hn2 : n2 ≤ 1100000000 := by rw [← hzs] at hf; omega
  refine vc_enter1 38 Tryz.func69 rfl rfl rfl rfl ?_
  intro Q hret
  refine wc_seq ?_; intro K1 hK1
  refine wc_region ?_
  refine wl_ef (ef_box rfl rfl) rfl ?_
  rintro _ wB1 ⟨gB1, rfl, B1, hgB1, ex⟩
  have lB1 := B1.lt; have zB1 := ex.size
  replace E := E.ext ex
  refine wl_y (y_assign rfl) rfl ?_
  refine wl_nil ?_
  refine wq_then_norm (hK1 ?_)
  refine wc_seq ?_; intro K2 hK2
  refine wc_region ?_
  refine wl_y (y_assign rfl) rfl ?_
  refine wl_nil ?_
  refine wq_then_norm (hK2 ?_)
  refine wc_seq ?_; intro K3 hK3
  refine wc_seq ?_; intro K4 hK4
  refine wc_region ?_
  refine wl_y (y_fieldAddr (o := 2) (s := 1) (off := 0) (o' := 2) rfl Tryz.underlying29 rfl (by kernel_rfl) rfl rfl) rfl ?_
  refine wl_y (y_load1 rfl Tryz.underlying27 rfl (B1.get (i := 2) rfl)) rfl ?_
  refine wl_y (y_len_slice rfl Tryz.underlying27) rfl ?_
  refine wl_y (y_move rfl) rfl ?_
  refine wl_nil ?_
  refine wq_then_norm (hK4 ?_)
  refine wc_block ?_
  refine wc_loop (fun n' L wr => ∃ (k : Nat) (last : Int), L = [(1, .pointer (some ⟨gB1, 0, none⟩)), (3, .int .i64 last), (7, .slice A2 n2 c2), (8, .int .i64 (n2 : Int)), (9, .int .i64 (k : Int))] ∧ n' = n2 - k ∧ (k ≤ n2 ∧ -1 ≤ last ∧ (rising (-1) zs ↔ rising last (zs.drop k)) ∧ Ext w wr ∧ Blk wr gB1 29 (parV h0 h1 ⟨A2, n2, c2⟩))) _ _ ⟨0, -1, rfl, rfl, by omega, by omega, by rw [List.drop_zero], E, B1⟩ ⟨rfl, (by first | rfl | exact congrArg some (int_val (by omega))), rfl, (by first | rfl | exact congrArg some (int_val (by omega))), (by first | rfl | exact congrArg some (int_val (by omega))), trivial⟩ ?_
  rintro KL1 n' L wr ⟨k, last, rfl, rfl, hk, hlast, hR, E, B1⟩ hL1
  refine wc_seq ?_; intro K5 hK5
  refine wc_region ?_
  refine wl_y (y_lss rfl rfl) rfl ?_
  refine wl_nil ?_
  refine wq_then_norm (hK5 ?_)
  refine wc_seq ?_; intro K6 hK6
  refine wc_dec rfl (fun hc1 => ?_) (fun hc1 => ?_)
  · skip
    refine wc_skip ?_
    refine wq_then_norm (hK6 ?_)
    refine wc_seq ?_; intro K7 hK7
    refine wc_block ?_
    refine wc_seq ?_; intro K8 hK8
    have hlt : k < n2 := by omega
    obtain ⟨b, off, rfl, _, hc, hb1, hb2⟩ := (b2.ext E).get hlt
    rw [dropZ (by omega)] at hR
    refine wc_region ?_
    refine wl_y (y_ixs1 rfl rfl Tryz.underlying27 (by kernel_rfl) rfl (by omega)) rfl ?_
    refine wl_y (y_load1 rfl Tryz.underlying3 rfl hc) rfl ?_
    refine wl_y (y_assign rfl) rfl ?_
    refine wl_nil ?_
    refine wq_then_norm (hK8 ?_)
    refine wc_seq ?_; intro K9 hK9
    refine wc_seq ?_; intro K10 hK10
    refine wc_region ?_
    refine wl_y (y_move rfl) rfl ?_
    refine wl_y (y_move rfl) rfl ?_
    refine wl_yask (y_leq rfl rfl) rfl (fun q0 => ?_) (fun q0 => ?_)
    · skip
      refine wl_y (y_move rfl) rfl ?_
      refine wl_gno 16 rfl rfl rfl rfl ?_
      refine wl_gno 16 rfl rfl rfl rfl ?_
      refine wl_y (y_pickt rfl rfl) rfl ?_
      refine wl_nil ?_
      refine wq_then_norm (hK10 ?_)
      refine wc_true rfl rfl ?_
      refine wc_seq ?_; intro K11 hK11
      refine wc_region ?_
      refine wl_y (y_assign rfl) rfl ?_
      refine wl_nil ?_
      refine wq_then_norm (hK11 ?_)
      refine wc_ret ?_
      refine wq_then_ret ?_
      refine wq_blk_ret ?_
      refine wq_then_ret ?_
      refine wq_then_ret ?_
      refine wq_blk_ret ?_
      refine wq_then_ret ?_
      refine hret rfl ?_
      exact ⟨ret_no fun h => by have h1 := h.1; rw [← hzs, hR] at h1; have := h1.1; omega, E⟩
    · skip
      refine wl_y (y_move rfl) rfl ?_
      refine wl_gy 16 rfl rfl (y_move rfl) rfl ?_
      refine wl_gyask 16 rfl rfl (y_geq rfl rfl) rfl (fun q1 => ?_) (fun q1 => ?_)
      · skip
        refine wl_y (y_pickf rfl rfl) rfl ?_
        refine wl_nil ?_
        refine wq_then_norm (hK10 ?_)
        refine wc_true rfl rfl ?_
        refine wc_seq ?_; intro K12 hK12
        refine wc_region ?_
        refine wl_y (y_assign rfl) rfl ?_
        refine wl_nil ?_
        refine wq_then_norm (hK12 ?_)
        refine wc_ret ?_
        refine wq_then_ret ?_
        refine wq_blk_ret ?_
        refine wq_then_ret ?_
        refine wq_then_ret ?_
        refine wq_blk_ret ?_
        refine wq_then_ret ?_
        refine hret rfl ?_
        exact ⟨ret_no fun h => by have h1 := h.1; rw [← hzs, hR] at h1; have := h1.2.1; omega, E⟩
      · skip
        refine wl_y (y_pickf rfl rfl) rfl ?_
        refine wl_nil ?_
        refine wq_then_norm (hK10 ?_)
        refine wc_false rfl rfl ?_
        refine wc_skip ?_
        refine wq_then_norm (hK9 ?_)
        refine wc_region ?_
        refine wl_y (y_move rfl) rfl ?_
        refine wl_y (y_assign rfl) rfl ?_
        refine wl_nil ?_
        refine wq_blk_norm ?_
        refine wq_then_norm (hK7 ?_)
        refine wc_region ?_
        refine wl_y (y_add rfl rfl (i64_ok (by omega) (by omega))) rfl ?_
        refine wl_y (y_move rfl) rfl ?_
        refine wl_nil ?_
        refine wq_then_norm ?_
        refine hL1 _ _ ⟨k + 1, zs.getD k 0, rfl, rfl, by omega, by omega, hR.trans ⟨fun h => h.2.2, fun h => ⟨by omega, by omega, h⟩⟩, E, B1⟩ (by omega) ⟨rfl, (by first | rfl | exact congrArg some (int_val (by omega))), rfl, (by first | rfl | exact congrArg some (int_val (by omega))), (by first | rfl | exact congrArg some (int_val (by omega))), trivial⟩
  · skip
    refine wc_exit ?_
    refine wq_then_exit ?_
    refine wq_then_exit ?_
    refine wq_blk_hit ?_
    refine wq_then_norm (hK3 ?_)
    refine wc_seq ?_; intro K13 hK13
    obtain rfl : k = n2 := by omega
    rw [List.drop_of_length_le (by omega)] at hR
    have hris : rising (-1) p.late := by rw [← hzs]; exact hR.2 trivial
    refine wc_region ?_
    refine wl_y (y_fieldAddr (o := 0) (s := 1) (off := 0) (o' := 0) rfl Tryz.underlying29 rfl (by kernel_rfl) rfl rfl) rfl ?_
    refine wl_y (y_load1 rfl Tryz.underlying22 rfl (B1.get (i := 0) rfl)) rfl ?_
    refine wl_y (y_len_slice rfl Tryz.underlying22) rfl ?_
    refine wl_yask (y_eql rfl rfl) rfl (fun q2 => ?_) (fun q2 => ?_)
    · skip
      refine wl_y (y_move rfl) rfl ?_
      refine wl_gy 26 rfl rfl (y_fieldAddr (o := 1) (s := 1) (off := 0) (o' := 1) rfl Tryz.underlying29 rfl (by kernel_rfl) rfl rfl) rfl ?_
      refine wl_gy 26 rfl rfl (y_load1 rfl Tryz.underlying22 rfl (B1.get (i := 1) rfl)) rfl ?_
      refine wl_gy 26 rfl rfl (y_len_slice rfl Tryz.underlying22) rfl ?_
      refine wl_gyask 26 rfl rfl (y_eql rfl rfl) rfl (fun q3 => ?_) (fun q3 => ?_)
      · skip
        refine wl_gy 26 rfl rfl (y_move rfl) rfl ?_
        refine wl_gno 31 rfl rfl rfl rfl ?_
        refine wl_gno 31 rfl rfl rfl rfl ?_
        refine wl_gno 31 rfl rfl rfl rfl ?_
        refine wl_gno 31 rfl rfl rfl rfl ?_
        refine wl_gy 26 rfl rfl (y_pickt rfl rfl) rfl ?_
        refine wl_y (y_pickt rfl rfl) rfl ?_
        refine wl_y (y_assign rfl) rfl ?_
        refine wl_nil ?_
        refine wq_then_norm (hK13 ?_)
        refine wc_ret ?_
        refine hret rfl ?_
        exact ⟨ret_yes ⟨hris, by omega, .inl (by omega)⟩, E⟩
      · skip
        refine wl_gy 26 rfl rfl (y_move rfl) rfl ?_
        refine wl_gy 31 rfl rfl (y_fieldAddr (o := 1) (s := 1) (off := 0) (o' := 1) rfl Tryz.underlying29 rfl (by kernel_rfl) rfl rfl) rfl ?_
        refine wl_gy 31 rfl rfl (y_load1 rfl Tryz.underlying22 rfl (B1.get (i := 1) rfl)) rfl ?_
        refine wl_gy 31 rfl rfl (y_len_slice rfl Tryz.underlying22) rfl ?_
        refine wl_gyask 31 rfl rfl (y_eql rfl rfl) rfl (fun q4 => ?_) (fun q4 => ?_)
        · skip
          refine wl_gy 26 rfl rfl (y_pickf rfl rfl) rfl ?_
          refine wl_y (y_pickt rfl rfl) rfl ?_
          refine wl_y (y_assign rfl) rfl ?_
          refine wl_nil ?_
          refine wq_then_norm (hK13 ?_)
          refine wc_ret ?_
          refine hret rfl ?_
          exact ⟨ret_yes ⟨hris, by omega, .inr (by omega)⟩, E⟩
        · skip
          refine wl_gy 26 rfl rfl (y_pickf rfl rfl) rfl ?_
          refine wl_y (y_pickt rfl rfl) rfl ?_
          refine wl_y (y_assign rfl) rfl ?_
          refine wl_nil ?_
          refine wq_then_norm (hK13 ?_)
          refine wc_ret ?_
          refine hret rfl ?_
          exact ⟨ret_no fun h => by have := h.2.2; omega, E⟩
    · skip
      refine wl_y (y_move rfl) rfl ?_
      refine wl_gno 26 rfl rfl rfl rfl ?_
      refine wl_gno 26 rfl rfl rfl rfl ?_
      refine wl_gno 26 rfl rfl rfl rfl ?_
      refine wl_gno 26 rfl rfl rfl rfl ?_
      refine wl_gno 26 rfl rfl rfl rfl ?_
      refine wl_gun 31 rfl rfl rfl ?_
      refine wl_gun 31 rfl rfl rfl ?_
      refine wl_gun 31 rfl rfl rfl ?_
      refine wl_gun 31 rfl rfl rfl ?_
      refine wl_gno 26 rfl rfl rfl rfl ?_
      refine wl_y (y_pickf rfl rfl) rfl ?_
      refine wl_y (y_assign rfl) rfl ?_
      refine wl_nil ?_
      refine wq_then_norm (hK13 ?_)
      refine wc_ret ?_
      refine hret rfl ?_
      exact ⟨ret_no fun h => by have := h.2.1; omega, E⟩
/-- A node's parts, as its fields lie in it. -/
theorem NodeC.parts {B : Hd → List UInt8 → Prop} {Z : Hd → List Int → Prop} {cs : Array Value} {n : Node} (h : NodeC B Z cs n) : n.kind < 256 ∧ cs.size = 10 ∧ cs[0]? = some (.int .u8 (n.kind : Int)) ∧ LeafC B ((cs.toList.drop 1).take 6).toArray n.leaf ∧ ParC B Z ((cs.toList.drop 7).take 3).toArray n.par := by
  obtain ⟨h0, h1, h2, h4, h5, p0, p1, p2, rfl, hk, hs, b0, b1, b2, b4, b5, q0, q1, q2⟩ := h
  exact ⟨hk, rfl, rfl, ⟨h0, h1, h2, h4, h5, rfl, hs, b0, b1, b2, b4, b5⟩, ⟨p0, p1, p2, rfl, q0, q1, q2⟩⟩
theorem right_any {cs : Array Value} {n : Node} (w : World) (H : NodeAt w cs n) (hf : n.Fit) :
    Calls Tryz.prog 33 #[.agg cs] w fun e w' => e = .returned (.bool (decide (okNode n))) ∧ Ext w w' := by
  obtain ⟨hk, hsz, hk0, HL, HP⟩ := NodeC.parts H
  replace HL : LeafAt w _ n.leaf := HL
  replace HP : ParAt w _ n.par := HP
  have E := Ext.refl w
  have hz : Nat.ble (1 + 6) cs.size = true := by rw [hsz]; rfl
  have hz2 : Nat.ble (7 + 3) cs.size = true := by rw [hsz]; rfl
  refine vc_enter1 35 Tryz.func33 rfl rfl rfl rfl ?_
  intro Q hret
  refine wc_seq ?_; intro K1 hK1
  refine wc_region ?_
  refine wl_ef (ef_box rfl rfl) rfl ?_
  rintro _ wB1 ⟨gB1, rfl, B1, hgB1, ex⟩
  have lB1 := B1.lt; have zB1 := ex.size
  replace E := E.ext ex
  refine wl_y (y_assign rfl) rfl ?_
  refine wl_nil ?_
  refine wq_then_norm (hK1 ?_)
  refine wc_seq ?_; intro K2 hK2
  refine wc_seq ?_; intro K3 hK3
  refine wc_region ?_
  refine wl_y (y_fieldAddr (o := 0) (s := 1) (off := 0) (o' := 0) rfl Tryz.underlying31 rfl (by kernel_rfl) rfl rfl) rfl ?_
  refine wl_y (y_load1 rfl Tryz.underlying5 rfl (B1.get (i := 0) hk0)) rfl ?_
  refine wl_nil ?_
  refine wq_then_norm (hK3 ?_)
  refine wc_block ?_
  refine wc_seq ?_; intro K4 hK4
  refine wc_region ?_
  refine wl_yask (y_eql rfl rfl) rfl (fun k0 => ?_) (fun k0 => ?_)
  · skip
    refine wl_y (y_assign rfl) rfl ?_
    refine wl_nil ?_
    refine wq_then_norm (hK4 ?_)
    refine wc_true rfl rfl ?_
    refine wc_seq ?_; intro K5 hK5
    refine wc_region ?_
    refine wl_y (y_fieldAddr (o := 1) (s := 6) (off := 0) (o' := 1) rfl Tryz.underlying31 rfl (by kernel_rfl) rfl rfl) rfl ?_
    refine wl_y (y_loadx (o := 1) (s := 6) rfl Tryz.underlying24 rfl (by kernel_rfl) B1 hz) rfl ?_
    refine wl_call Tryz.func67 rfl rfl rfl (noLeaf_any _ (HL.ext E) hf.1) rfl ?_
    rintro e w2 ⟨rfl, ex⟩
    refine ⟨_, rfl, ?_⟩
    replace E := E.ext ex
    replace B1 := B1.ext ex
    skip
    refine wl_yask (y_move rfl) rfl (fun q0 => ?_) (fun q0 => ?_)
    · skip
      refine wl_gy 10 rfl rfl (y_fieldAddr (o := 7) (s := 3) (off := 0) (o' := 7) rfl Tryz.underlying31 rfl (by kernel_rfl) rfl rfl) rfl ?_
      refine wl_gy 10 rfl rfl (y_loadx (o := 7) (s := 3) rfl Tryz.underlying29 rfl (by kernel_rfl) B1 hz2) rfl ?_
      refine wl_gcall 10 rfl rfl Tryz.func68 rfl rfl rfl (noParent_any _ (HP.ext E) hf.2) rfl ?_
      rintro e w3 ⟨rfl, ex⟩
      refine ⟨_, rfl, ?_⟩
      replace E := E.ext ex
      replace B1 := B1.ext ex
      skip
      refine wl_y (y_pickt rfl rfl) rfl ?_
      refine wl_y (y_assign rfl) rfl ?_
      refine wl_nil ?_
      refine wq_then_norm (hK5 ?_)
      refine wc_ret ?_
      refine wq_blk_ret ?_
      refine wq_then_ret ?_
      refine hret rfl ?_
      exact ⟨by rw [decide_eq_decide.2 (show n.par = Par.zero ↔ okNode n from ⟨fun h => .inl ⟨by omega, q0, h⟩, fun h => by rcases h with h | h | h <;> first | exact h.2.2 | (exfalso; omega)⟩)], E⟩
    · skip
      refine wl_gno 10 rfl rfl rfl rfl ?_
      refine wl_gno 10 rfl rfl rfl rfl ?_
      refine wl_gno 10 rfl rfl rfl rfl ?_
      refine wl_y (y_pickf rfl rfl) rfl ?_
      refine wl_y (y_assign rfl) rfl ?_
      refine wl_nil ?_
      refine wq_then_norm (hK5 ?_)
      refine wc_ret ?_
      refine wq_blk_ret ?_
      refine wq_then_ret ?_
      refine hret rfl ?_
      exact ⟨ret_no fun h => by rcases h with h | h | h <;> first | exact q0 h.2.1 | (exfalso; omega), E⟩
  · skip
    refine wl_y (y_assign rfl) rfl ?_
    refine wl_nil ?_
    refine wq_then_norm (hK4 ?_)
    refine wc_false rfl rfl ?_
    refine wc_seq ?_; intro K6 hK6
    refine wc_region ?_
    refine wl_yask (y_eql rfl rfl) rfl (fun k1 => ?_) (fun k1 => ?_)
    · skip
      refine wl_y (y_assign rfl) rfl ?_
      refine wl_nil ?_
      refine wq_then_norm (hK6 ?_)
      refine wc_true rfl rfl ?_
      refine wc_seq ?_; intro K7 hK7
      refine wc_region ?_
      refine wl_y (y_fieldAddr (o := 1) (s := 6) (off := 0) (o' := 1) rfl Tryz.underlying31 rfl (by kernel_rfl) rfl rfl) rfl ?_
      refine wl_y (y_loadx (o := 1) (s := 6) rfl Tryz.underlying24 rfl (by kernel_rfl) B1 hz) rfl ?_
      refine wl_call Tryz.func20 rfl rfl rfl (rightLeaf_any _ (HL.ext E)) rfl ?_
      rintro e w2 ⟨rfl, ex⟩
      refine ⟨_, rfl, ?_⟩
      replace E := E.ext ex
      replace B1 := B1.ext ex
      skip
      refine wl_yask (y_move rfl) rfl (fun q0 => ?_) (fun q0 => ?_)
      · skip
        refine wl_gy 20 rfl rfl (y_fieldAddr (o := 7) (s := 3) (off := 0) (o' := 7) rfl Tryz.underlying31 rfl (by kernel_rfl) rfl rfl) rfl ?_
        refine wl_gy 20 rfl rfl (y_loadx (o := 7) (s := 3) rfl Tryz.underlying29 rfl (by kernel_rfl) B1 hz2) rfl ?_
        refine wl_gcall 20 rfl rfl Tryz.func68 rfl rfl rfl (noParent_any _ (HP.ext E) hf.2) rfl ?_
        rintro e w3 ⟨rfl, ex⟩
        refine ⟨_, rfl, ?_⟩
        replace E := E.ext ex
        replace B1 := B1.ext ex
        skip
        refine wl_y (y_pickt rfl rfl) rfl ?_
        refine wl_y (y_assign rfl) rfl ?_
        refine wl_nil ?_
        refine wq_then_norm (hK7 ?_)
        refine wc_ret ?_
        refine wq_blk_ret ?_
        refine wq_then_ret ?_
        refine hret rfl ?_
        exact ⟨by rw [decide_eq_decide.2 (show n.par = Par.zero ↔ okNode n from ⟨fun h => .inr (.inl ⟨by omega, q0, h⟩), fun h => by rcases h with h | h | h <;> first | exact h.2.2 | (exfalso; omega)⟩)], E⟩
      · skip
        refine wl_gno 20 rfl rfl rfl rfl ?_
        refine wl_gno 20 rfl rfl rfl rfl ?_
        refine wl_gno 20 rfl rfl rfl rfl ?_
        refine wl_y (y_pickf rfl rfl) rfl ?_
        refine wl_y (y_assign rfl) rfl ?_
        refine wl_nil ?_
        refine wq_then_norm (hK7 ?_)
        refine wc_ret ?_
        refine wq_blk_ret ?_
        refine wq_then_ret ?_
        refine hret rfl ?_
        exact ⟨ret_no fun h => by rcases h with h | h | h <;> first | exact q0 h.2.1 | (exfalso; omega), E⟩
    · skip
      refine wl_y (y_assign rfl) rfl ?_
      refine wl_nil ?_
      refine wq_then_norm (hK6 ?_)
      refine wc_false rfl rfl ?_
      refine wc_seq ?_; intro K8 hK8
      refine wc_region ?_
      refine wl_yask (y_eql rfl rfl) rfl (fun k2 => ?_) (fun k2 => ?_)
      · skip
        refine wl_y (y_assign rfl) rfl ?_
        refine wl_nil ?_
        refine wq_then_norm (hK8 ?_)
        refine wc_true rfl rfl ?_
        refine wc_seq ?_; intro K9 hK9
        refine wc_region ?_
        refine wl_y (y_fieldAddr (o := 1) (s := 6) (off := 0) (o' := 1) rfl Tryz.underlying31 rfl (by kernel_rfl) rfl rfl) rfl ?_
        refine wl_y (y_loadx (o := 1) (s := 6) rfl Tryz.underlying24 rfl (by kernel_rfl) B1 hz) rfl ?_
        refine wl_call Tryz.func67 rfl rfl rfl (noLeaf_any _ (HL.ext E) hf.1) rfl ?_
        rintro e w2 ⟨rfl, ex⟩
        refine ⟨_, rfl, ?_⟩
        replace E := E.ext ex
        replace B1 := B1.ext ex
        skip
        refine wl_yask (y_move rfl) rfl (fun q0 => ?_) (fun q0 => ?_)
        · skip
          refine wl_gy 30 rfl rfl (y_fieldAddr (o := 7) (s := 3) (off := 0) (o' := 7) rfl Tryz.underlying31 rfl (by kernel_rfl) rfl rfl) rfl ?_
          refine wl_gy 30 rfl rfl (y_loadx (o := 7) (s := 3) rfl Tryz.underlying29 rfl (by kernel_rfl) B1 hz2) rfl ?_
          refine wl_gcall 30 rfl rfl Tryz.func69 rfl rfl rfl (rightParent_any _ (HP.ext E) (Nat.le_trans hf.2.2.2 (by omega))) rfl ?_
          rintro e w3 ⟨rfl, ex⟩
          refine ⟨_, rfl, ?_⟩
          replace E := E.ext ex
          replace B1 := B1.ext ex
          skip
          refine wl_y (y_pickt rfl rfl) rfl ?_
          refine wl_y (y_assign rfl) rfl ?_
          refine wl_nil ?_
          refine wq_then_norm (hK9 ?_)
          refine wc_ret ?_
          refine wq_blk_ret ?_
          refine wq_then_ret ?_
          refine hret rfl ?_
          exact ⟨by rw [decide_eq_decide.2 (show okPar n.par ↔ okNode n from ⟨fun h => .inr (.inr ⟨by omega, q0, h⟩), fun h => by rcases h with h | h | h <;> first | exact h.2.2 | (exfalso; omega)⟩)], E⟩
        · skip
          refine wl_gno 30 rfl rfl rfl rfl ?_
          refine wl_gno 30 rfl rfl rfl rfl ?_
          refine wl_gno 30 rfl rfl rfl rfl ?_
          refine wl_y (y_pickf rfl rfl) rfl ?_
          refine wl_y (y_assign rfl) rfl ?_
          refine wl_nil ?_
          refine wq_then_norm (hK9 ?_)
          refine wc_ret ?_
          refine wq_blk_ret ?_
          refine wq_then_ret ?_
          refine hret rfl ?_
          exact ⟨ret_no fun h => by rcases h with h | h | h <;> first | exact q0 h.2.1 | (exfalso; omega), E⟩
      · skip
        refine wl_y (y_assign rfl) rfl ?_
        refine wl_nil ?_
        refine wq_then_norm (hK8 ?_)
        refine wc_false rfl rfl ?_
        refine wc_skip ?_
        refine wq_blk_norm ?_
        refine wq_then_norm (hK2 ?_)
        refine wc_seq ?_; intro K10 hK10
        refine wc_region ?_
        refine wl_y (y_assign rfl) rfl ?_
        refine wl_nil ?_
        refine wq_then_norm (hK10 ?_)
        refine wc_ret ?_
        refine hret rfl ?_
        exact ⟨ret_no fun h => by rcases h with h | h | h <;> (have := h.1; omega), E⟩
end Go.Proofs.YtopimmomkapdoaaGreat
