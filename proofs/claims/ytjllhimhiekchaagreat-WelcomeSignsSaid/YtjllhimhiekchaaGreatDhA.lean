/- The ladder's step and product on field elements: what dh's step and product hand back. -/
import Derived.Test.YtjllhimhiekchaaGreatFieldQ
import Derived.Test.YtjllhimhiekchaaGreatVc7
namespace Go.Proofs.YtjllhimhiekchaaGreat
open Go.RowKit
attribute [local irreducible] Y Ef WL WC WK WQ WM OpM WN WF OpN
theorem FE.fe {cs : Array Value} {a : Fp.F} (h : FE cs a) : ∃ f, cs = fe f ∧ FE (fe f) a := by
 obtain ⟨f, rfl, h1, h2⟩ := h; exact ⟨f, rfl, f, rfl, h1, h2⟩
def pr (f g : Nat → Nat) : Array Value := fe f ++ fe g
theorem pr_size (f g : Nat → Nat) : (pr f g).size = 10 := by rw [pr, Array.size_append, fe_size, fe_size]
theorem pr_one (f g : Nat → Nat) : (pr f g).all (·.oneCell') = true := by rw [pr, Array.all_append, fe_one, fe_one]; rfl
theorem pr_fst (f g : Nat → Nat) (j : Nat) (v : Value) (h : (fe f)[j]? = some v) : (pr f g)[j]? = some v := by
 rw [pr, Array.getElem?_append_left (Array.getElem?_eq_some_iff.1 h).1]; exact h
theorem pr_snd (f g : Nat → Nat) (j : Nat) (v : Value) (h : (fe g)[j]? = some v) : (pr f g)[5 + j]? = some v := by
 rw [pr, Array.getElem?_append_right (by rw [fe_size]; omega), fe_size, Nat.add_sub_cancel_left]; exact h
section
variable {L : List (Nat × Value)} {w : World} {ty e : TypeId} {x : Operand} {g : Nat} {f h : Nat → Nat}
theorem y_lE (hx : ev L x = some (.pointer (some ⟨g, 0, none⟩))) (B : Blk w g e (fe f)) : Y Tryz.prog L w (.load 135 x) ty (.agg (fe f)) := y_loadw hx Tryz.underlying135 rfl (by rw [fe_size]; kernel_rfl) B
theorem y_lP (hx : ev L x = some (.pointer (some ⟨g, 0, none⟩))) (B : Blk w g e (pr f h)) : Y Tryz.prog L w (.load 304 x) ty (.agg (pr f h)) := y_loadw hx Tryz.underlying304 rfl (by rw [pr_size]; kernel_rfl) B
theorem y_lP0 (hx : ev L x = some (.pointer (some ⟨g, 0, none⟩))) (B : Blk w g e (pr f h)) : Y Tryz.prog L w (.load 135 x) ty (.agg (fe f)) :=
 y_loadp hx Tryz.underlying135 rfl (by rw [fe_size]; kernel_rfl) fun j v hv => by rw [Addr.add_plain, Nat.zero_add, B.cell]; exact pr_fst f h j v hv
theorem y_lP1 (hx : ev L x = some (.pointer (some ⟨g, 5, none⟩))) (B : Blk w g e (pr f h)) : Y Tryz.prog L w (.load 135 x) ty (.agg (fe h)) :=
 y_loadp hx Tryz.underlying135 rfl (by rw [fe_size]; kernel_rfl) fun j v hv => by rw [Addr.add_plain, B.cell]; exact pr_snd f h j v hv
end
def lad (px pz qx qz u : Fp.F) : (Fp.F × Fp.F) × (Fp.F × Fp.F) :=
 let a := px + pz; let b := px - pz; let c := qx + qz; let d := qx - qz
 let da := d * a; let cb := c * b; let aa := a * a; let bb := b * b; let e := aa - bb
 ((aa * bb, e * (aa + e * Fp.of 121665)), ((da + cb) * (da + cb), u * ((da - cb) * (da - cb))))
theorem dhstep_any (p1 p2 q1 q2 f5 : Nat → Nat) (px pz qx qz u : Fp.F) (w : World) (P1 : FE (fe p1) px) (P2 : FE (fe p2) pz) (Q1 : FE (fe q1) qx) (Q2 : FE (fe q2) qz) (U : FE (fe f5) u) :
  Calls Tryz.prog 266 #[.agg (pr p1 p2), .agg (pr q1 q2), .agg (fe f5)] w fun e w' => ∃ f1 f2 f3 f4, e = .returned (.tuple #[.agg (pr f1 f2), .agg (pr f3 f4)]) ∧ FE (fe f1) (lad px pz qx qz u).1.1 ∧ FE (fe f2) (lad px pz qx qz u).1.2 ∧ FE (fe f3) (lad px pz qx qz u).2.1 ∧ FE (fe f4) (lad px pz qx qz u).2.2 ∧ Ext w w' := by
 have E := Ext.refl w
 refine vc_entercc (s := 10) (s' := 10) 72 Tryz.func266 rfl rfl rfl Tryz.underlying304 rfl (by kernel_rfl) Tryz.underlying304 rfl (by kernel_rfl) rfl ?_
 intro Q hret
 refine wc_seq ?_; intro K1 hK1
 refine wc_region ?_
 refine wl_ef (ef_box (cs := pr p1 p2) rfl rfl) rfl ?_
 rintro _ w1 ⟨g3, rfl, B3, hg3, ex⟩
 replace E := E.ext ex
 skip
 refine wl_ef (ef_box (cs := pr q1 q2) rfl rfl) rfl ?_
 rintro _ w2 ⟨g4, rfl, B4, hg4, ex⟩
 replace E := E.ext ex
 replace B3 := B3.ext ex
 skip
 refine wl_ef (ef_box (cs := fe f5) rfl rfl) rfl ?_
 rintro _ w3 ⟨g5, rfl, B5, hg5, ex⟩
 replace E := E.ext ex
 replace B3 := B3.ext ex
 replace B4 := B4.ext ex
 skip
 have E0 := E
 refine wl_ef (ef_alloc (Z := pr (fun _ => 0) (fun _ => 0)) (by kernel_rfl)) rfl ?_
 rintro _ w4 ⟨g6, rfl, B6, hg6, ex⟩
 replace E := E.ext ex
 replace B3 := B3.ext ex
 replace B4 := B4.ext ex
 replace B5 := B5.ext ex
 have hw6 : w.heap.size ≤ g6 := Nat.le_trans E0.size hg6
 have E1 := E; have B6o := B6
 refine wl_ef (ef_alloc (Z := pr (fun _ => 0) (fun _ => 0)) (by kernel_rfl)) rfl ?_
 rintro _ w5 ⟨g7, rfl, B7, hg7, ex⟩
 replace E := E.ext ex
 replace B3 := B3.ext ex
 replace B4 := B4.ext ex
 replace B5 := B5.ext ex
 replace B6 := B6.ext ex
 have hw7 : w.heap.size ≤ g7 := Nat.le_trans E1.size hg7; have h67 : g6 ≠ g7 := by have := B6o.lt; omega
 refine wl_nil ?_
 refine wq_then_norm (hK1 ?_)
 refine wc_seq ?_; intro K2 hK2
 refine wc_drawB (by kernel_rfl) 14 rfl ?_; intro wd1 ex hd1
 replace E := E.ext ex
 replace B3 := B3.ext ex
 replace B4 := B4.ext ex
 replace B5 := B5.ext ex
 replace B6 := B6.ext ex
 replace B7 := B7.ext ex
 have E_0 := E
 have B3_0 := B3
 have B4_0 := B4
 have B5_0 := B5
 have B6_0 := B6
 have B7_0 := B7
 have X0 := Ext.refl wd1
 refine wn_y 0 rfl (by kernel_rfl) (y_fieldAddr (o := 0) (s := 5) (off := 0) (o' := 0) rfl Tryz.underlying304 rfl (by kernel_rfl) rfl rfl) rfl ?_
 refine wn_y 1 rfl (by kernel_rfl) (y_lP0 rfl B3_0) rfl ?_
 refine wn_y 2 rfl (by kernel_rfl) (y_fieldAddr (o := 5) (s := 5) (off := 0) (o' := 5) rfl Tryz.underlying304 rfl (by kernel_rfl) rfl rfl) rfl ?_
 refine wn_y 3 rfl (by kernel_rfl) (y_lP1 rfl B3_0) rfl ?_
 refine wn_y 5 rfl (by kernel_rfl) (y_fieldAddr (o := 0) (s := 5) (off := 0) (o' := 0) rfl Tryz.underlying304 rfl (by kernel_rfl) rfl rfl) rfl ?_
 refine wn_y 6 rfl (by kernel_rfl) (y_lP0 rfl B3_0) rfl ?_
 refine wn_y 7 rfl (by kernel_rfl) (y_fieldAddr (o := 5) (s := 5) (off := 0) (o' := 5) rfl Tryz.underlying304 rfl (by kernel_rfl) rfl rfl) rfl ?_
 refine wn_y 8 rfl (by kernel_rfl) (y_lP1 rfl B3_0) rfl ?_
 refine wf_start (fl := [flA 10 8 135 (fe (fun _ => 0)), flA 11 9 135 (fe (fun _ => 0))]) rfl ?_
 refine wf_call (j := 4) (dst := some 21) ⟨(fall (flA_runs rfl (by kernel_rfl)) (fall (flA_runs rfl (by kernel_rfl)) fall_nil)), by decide, by decide, (fall (⟨rfl, by decide⟩) (fall (⟨rfl, by decide⟩) fall_nil)), (fall (mem_of_has (by kernel_rfl)) (fall (mem_of_has (by kernel_rfl)) fall_nil))⟩ (by kernel_rfl) (fall (by decide) (fall (by decide) fall_nil)) rfl Tryz.func159 rfl rfl rfl (fall (by decide) (fall (by decide) fall_nil)) rfl ?_
 intro wf1_4 ex exb
 replace E := E.ext ex
 replace B3 := B3.ext ex
 replace B4 := B4.ext ex
 replace B5 := B5.ext ex
 replace B6 := B6.ext ex
 replace B7 := B7.ext ex
 replace X0 := X0.ext ex
 refine ⟨_, (Fadd_any P1 P2 _), ?_⟩
 rintro e wk8 ⟨c8, rfl, F8, ex⟩
 refine ⟨_, rfl, ex, ?_⟩
 replace E := E.ext ex
 replace B3 := B3.ext ex
 replace B4 := B4.ext ex
 replace B5 := B5.ext ex
 replace B6 := B6.ext ex
 replace B7 := B7.ext ex
 replace X0 := X0.ext ex
 obtain ⟨f8, rfl, F8⟩ := F8.fe
 refine wf_call (j := 9) (dst := some 26) ⟨(fall (flA_runs rfl (by kernel_rfl)) (fall (flA_runs rfl (by kernel_rfl)) fall_nil)), by decide, by decide, (fall (⟨rfl, by decide⟩) (fall (⟨rfl, by decide⟩) fall_nil)), (fall (mem_of_has (by kernel_rfl)) (fall (mem_of_has (by kernel_rfl)) fall_nil))⟩ (by kernel_rfl) (fall (by decide) (fall (by decide) fall_nil)) rfl Tryz.func223 rfl rfl rfl (fall (by decide) (fall (by decide) fall_nil)) rfl ?_
 intro wf1_9 ex exb
 replace E := E.ext ex
 replace B3 := B3.ext ex
 replace B4 := B4.ext ex
 replace B5 := B5.ext ex
 replace B6 := B6.ext ex
 replace B7 := B7.ext ex
 replace X0 := X0.ext ex
 refine ⟨_, (Fsub_any P1 P2 _), ?_⟩
 rintro e wk9 ⟨c9, rfl, F9, ex⟩
 refine ⟨_, rfl, ex, ?_⟩
 replace E := E.ext ex
 replace B3 := B3.ext ex
 replace B4 := B4.ext ex
 replace B5 := B5.ext ex
 replace B6 := B6.ext ex
 replace B7 := B7.ext ex
 replace X0 := X0.ext ex
 obtain ⟨f9, rfl, F9⟩ := F9.fe
 refine wf_land2 ⟨(fall (flA_runs rfl (by kernel_rfl)) (fall (flA_runs rfl (by kernel_rfl)) fall_nil)), by decide, by decide, (fall (⟨rfl, by decide⟩) (fall (⟨rfl, by decide⟩) fall_nil)), (fall (mem_of_has (by kernel_rfl)) (fall (mem_of_has (by kernel_rfl)) fall_nil))⟩ (by kernel_rfl) ?_
 rintro _ _ wl1 ex ⟨⟨g8, rfl, Bg8⟩, hg8⟩ ⟨⟨g9, rfl, Bg9⟩, hg9⟩ farg8_g9
 replace hg8 := hg8 g8 rfl
 replace hg9 := hg9 g9 rfl
 have neg8_g9 : g8 ≠ g9 := fun e => farg8_g9 g8 rfl (by rw [e]; rfl)
 replace E := E.ext ex
 replace B3 := B3.ext ex
 replace B4 := B4.ext ex
 replace B5 := B5.ext ex
 replace B6 := B6.ext ex
 replace B7 := B7.ext ex
 replace X0 := X0.ext ex
 refine wn_one 12 (by kernel_rfl) ?_
 refine on_ef rfl (ef_storeW rfl rfl (by rw [fe_size]; kernel_rfl) Bg8 (by rw [fe_size, fe_size]) (fe_one _)) rfl ?_
 rintro _ wn1_12 ⟨rfl, Bg8, cg⟩
 replace X0 := X0.chg cg hg8
 refine ⟨X0, ?_⟩
 replace E := E_0.ext X0
 replace B3 := B3_0.ext X0
 replace B4 := B4_0.ext X0
 replace B5 := B5_0.ext X0
 replace B6 := B6_0.ext X0
 replace B7 := B7_0.ext X0
 replace Bg9 := Bg9.chg cg (by omega)
 refine wn_one 13 (by kernel_rfl) ?_
 refine on_ef rfl (ef_storeW rfl rfl (by rw [fe_size]; kernel_rfl) Bg9 (by rw [fe_size, fe_size]) (fe_one _)) rfl ?_
 rintro _ wn1_13 ⟨rfl, Bg9, cg⟩
 replace X0 := X0.chg cg hg9
 refine ⟨X0, ?_⟩
 replace E := E_0.ext X0
 replace B3 := B3_0.ext X0
 replace B4 := B4_0.ext X0
 replace B5 := B5_0.ext X0
 replace B6 := B6_0.ext X0
 replace B7 := B7_0.ext X0
 replace Bg8 := Bg8.chg cg (by omega)
 refine wn_done (by kernel_rfl) ?_
 refine wq_nop ?_
 refine wq_then_norm (hK2 ?_)
 refine wc_seq ?_; intro K3 hK3
 refine wc_drawB (by kernel_rfl) 14 rfl ?_; intro wd2 ex hd2
 replace E := E.ext ex
 replace B3 := B3.ext ex
 replace B4 := B4.ext ex
 replace B5 := B5.ext ex
 replace B6 := B6.ext ex
 replace B7 := B7.ext ex
 replace Bg8 := Bg8.ext ex
 replace Bg9 := Bg9.ext ex
 have E_0 := E
 have B3_0 := B3
 have B4_0 := B4
 have B5_0 := B5
 have B6_0 := B6
 have B7_0 := B7
 have Bg8_0 := Bg8
 have Bg9_0 := Bg9
 have X0 := Ext.refl wd2
 refine wn_y 0 rfl (by kernel_rfl) (y_fieldAddr (o := 0) (s := 5) (off := 0) (o' := 0) rfl Tryz.underlying304 rfl (by kernel_rfl) rfl rfl) rfl ?_
 refine wn_y 1 rfl (by kernel_rfl) (y_lP0 rfl B4_0) rfl ?_
 refine wn_y 2 rfl (by kernel_rfl) (y_fieldAddr (o := 5) (s := 5) (off := 0) (o' := 5) rfl Tryz.underlying304 rfl (by kernel_rfl) rfl rfl) rfl ?_
 refine wn_y 3 rfl (by kernel_rfl) (y_lP1 rfl B4_0) rfl ?_
 refine wn_y 5 rfl (by kernel_rfl) (y_fieldAddr (o := 0) (s := 5) (off := 0) (o' := 0) rfl Tryz.underlying304 rfl (by kernel_rfl) rfl rfl) rfl ?_
 refine wn_y 6 rfl (by kernel_rfl) (y_lP0 rfl B4_0) rfl ?_
 refine wn_y 7 rfl (by kernel_rfl) (y_fieldAddr (o := 5) (s := 5) (off := 0) (o' := 5) rfl Tryz.underlying304 rfl (by kernel_rfl) rfl rfl) rfl ?_
 refine wn_y 8 rfl (by kernel_rfl) (y_lP1 rfl B4_0) rfl ?_
 refine wf_start (fl := [flA 10 10 135 (fe (fun _ => 0)), flA 11 11 135 (fe (fun _ => 0))]) rfl ?_
 refine wf_call (j := 4) (dst := some 31) ⟨(fall (flA_runs rfl (by kernel_rfl)) (fall (flA_runs rfl (by kernel_rfl)) fall_nil)), by decide, by decide, (fall (⟨rfl, by decide⟩) (fall (⟨rfl, by decide⟩) fall_nil)), (fall (mem_of_has (by kernel_rfl)) (fall (mem_of_has (by kernel_rfl)) fall_nil))⟩ (by kernel_rfl) (fall (by decide) (fall (by decide) fall_nil)) rfl Tryz.func159 rfl rfl rfl (fall (by decide) (fall (by decide) fall_nil)) rfl ?_
 intro wf2_4 ex exb
 replace E := E.ext ex
 replace B3 := B3.ext ex
 replace B4 := B4.ext ex
 replace B5 := B5.ext ex
 replace B6 := B6.ext ex
 replace B7 := B7.ext ex
 replace Bg8 := Bg8.ext ex
 replace Bg9 := Bg9.ext ex
 replace X0 := X0.ext ex
 refine ⟨_, (Fadd_any Q1 Q2 _), ?_⟩
 rintro e wk10 ⟨c10, rfl, F10, ex⟩
 refine ⟨_, rfl, ex, ?_⟩
 replace E := E.ext ex
 replace B3 := B3.ext ex
 replace B4 := B4.ext ex
 replace B5 := B5.ext ex
 replace B6 := B6.ext ex
 replace B7 := B7.ext ex
 replace Bg8 := Bg8.ext ex
 replace Bg9 := Bg9.ext ex
 replace X0 := X0.ext ex
 obtain ⟨f10, rfl, F10⟩ := F10.fe
 refine wf_call (j := 9) (dst := some 36) ⟨(fall (flA_runs rfl (by kernel_rfl)) (fall (flA_runs rfl (by kernel_rfl)) fall_nil)), by decide, by decide, (fall (⟨rfl, by decide⟩) (fall (⟨rfl, by decide⟩) fall_nil)), (fall (mem_of_has (by kernel_rfl)) (fall (mem_of_has (by kernel_rfl)) fall_nil))⟩ (by kernel_rfl) (fall (by decide) (fall (by decide) fall_nil)) rfl Tryz.func223 rfl rfl rfl (fall (by decide) (fall (by decide) fall_nil)) rfl ?_
 intro wf2_9 ex exb
 replace E := E.ext ex
 replace B3 := B3.ext ex
 replace B4 := B4.ext ex
 replace B5 := B5.ext ex
 replace B6 := B6.ext ex
 replace B7 := B7.ext ex
 replace Bg8 := Bg8.ext ex
 replace Bg9 := Bg9.ext ex
 replace X0 := X0.ext ex
 refine ⟨_, (Fsub_any Q1 Q2 _), ?_⟩
 rintro e wk11 ⟨c11, rfl, F11, ex⟩
 refine ⟨_, rfl, ex, ?_⟩
 replace E := E.ext ex
 replace B3 := B3.ext ex
 replace B4 := B4.ext ex
 replace B5 := B5.ext ex
 replace B6 := B6.ext ex
 replace B7 := B7.ext ex
 replace Bg8 := Bg8.ext ex
 replace Bg9 := Bg9.ext ex
 replace X0 := X0.ext ex
 obtain ⟨f11, rfl, F11⟩ := F11.fe
 refine wf_land2 ⟨(fall (flA_runs rfl (by kernel_rfl)) (fall (flA_runs rfl (by kernel_rfl)) fall_nil)), by decide, by decide, (fall (⟨rfl, by decide⟩) (fall (⟨rfl, by decide⟩) fall_nil)), (fall (mem_of_has (by kernel_rfl)) (fall (mem_of_has (by kernel_rfl)) fall_nil))⟩ (by kernel_rfl) ?_
 rintro _ _ wl2 ex ⟨⟨g10, rfl, Bg10⟩, hg10⟩ ⟨⟨g11, rfl, Bg11⟩, hg11⟩ farg10_g11
 replace hg10 := hg10 g10 rfl
 replace hg11 := hg11 g11 rfl
 have neg10_g11 : g10 ≠ g11 := fun e => farg10_g11 g10 rfl (by rw [e]; rfl)
 replace E := E.ext ex
 replace B3 := B3.ext ex
 replace B4 := B4.ext ex
 replace B5 := B5.ext ex
 replace B6 := B6.ext ex
 replace B7 := B7.ext ex
 replace Bg8 := Bg8.ext ex
 replace Bg9 := Bg9.ext ex
 replace X0 := X0.ext ex
 refine wn_one 12 (by kernel_rfl) ?_
 refine on_ef rfl (ef_storeW rfl rfl (by rw [fe_size]; kernel_rfl) Bg10 (by rw [fe_size, fe_size]) (fe_one _)) rfl ?_
 rintro _ wn2_12 ⟨rfl, Bg10, cg⟩
 replace X0 := X0.chg cg hg10
 refine ⟨X0, ?_⟩
 replace E := E_0.ext X0
 replace B3 := B3_0.ext X0
 replace B4 := B4_0.ext X0
 replace B5 := B5_0.ext X0
 replace B6 := B6_0.ext X0
 replace B7 := B7_0.ext X0
 replace Bg8 := Bg8_0.ext X0
 replace Bg9 := Bg9_0.ext X0
 replace Bg11 := Bg11.chg cg (by omega)
 refine wn_one 13 (by kernel_rfl) ?_
 refine on_ef rfl (ef_storeW rfl rfl (by rw [fe_size]; kernel_rfl) Bg11 (by rw [fe_size, fe_size]) (fe_one _)) rfl ?_
 rintro _ wn2_13 ⟨rfl, Bg11, cg⟩
 replace X0 := X0.chg cg hg11
 refine ⟨X0, ?_⟩
 replace E := E_0.ext X0
 replace B3 := B3_0.ext X0
 replace B4 := B4_0.ext X0
 replace B5 := B5_0.ext X0
 replace B6 := B6_0.ext X0
 replace B7 := B7_0.ext X0
 replace Bg8 := Bg8_0.ext X0
 replace Bg9 := Bg9_0.ext X0
 replace Bg10 := Bg10.chg cg (by omega)
 refine wn_done (by kernel_rfl) ?_
 refine wq_nop ?_
 refine wq_then_norm (hK3 ?_)
 refine wc_seq ?_; intro K4 hK4
 refine wc_drawB (by kernel_rfl) 10 rfl ?_; intro wd3 ex hd3
 replace E := E.ext ex
 replace B3 := B3.ext ex
 replace B4 := B4.ext ex
 replace B5 := B5.ext ex
 replace B6 := B6.ext ex
 replace B7 := B7.ext ex
 replace Bg8 := Bg8.ext ex
 replace Bg9 := Bg9.ext ex
 replace Bg10 := Bg10.ext ex
 replace Bg11 := Bg11.ext ex
 have E_0 := E
 have B3_0 := B3
 have B4_0 := B4
 have B5_0 := B5
 have B6_0 := B6
 have B7_0 := B7
 have Bg8_0 := Bg8
 have Bg9_0 := Bg9
 have Bg10_0 := Bg10
 have Bg11_0 := Bg11
 have X0 := Ext.refl wd3
 refine wn_y 0 rfl (by kernel_rfl) (y_lE rfl Bg11_0) rfl ?_
 refine wn_y 1 rfl (by kernel_rfl) (y_lE rfl Bg8_0) rfl ?_
 refine wn_y 3 rfl (by kernel_rfl) (y_lE rfl Bg10_0) rfl ?_
 refine wn_y 4 rfl (by kernel_rfl) (y_lE rfl Bg9_0) rfl ?_
 refine wf_start (fl := [flA 6 12 135 (fe (fun _ => 0)), flA 7 13 135 (fe (fun _ => 0))]) rfl ?_
 refine wf_call (j := 2) (dst := some 39) ⟨(fall (flA_runs rfl (by kernel_rfl)) (fall (flA_runs rfl (by kernel_rfl)) fall_nil)), by decide, by decide, (fall (⟨rfl, by decide⟩) (fall (⟨rfl, by decide⟩) fall_nil)), (fall (mem_of_has (by kernel_rfl)) (fall (mem_of_has (by kernel_rfl)) fall_nil))⟩ (by kernel_rfl) (fall (by decide) (fall (by decide) fall_nil)) rfl Tryz.func152 rfl rfl rfl (fall (by decide) (fall (by decide) fall_nil)) rfl ?_
 intro wf3_2 ex exb
 replace E := E.ext ex
 replace B3 := B3.ext ex
 replace B4 := B4.ext ex
 replace B5 := B5.ext ex
 replace B6 := B6.ext ex
 replace B7 := B7.ext ex
 replace Bg8 := Bg8.ext ex
 replace Bg9 := Bg9.ext ex
 replace Bg10 := Bg10.ext ex
 replace Bg11 := Bg11.ext ex
 replace X0 := X0.ext ex
 refine ⟨_, (Fmul_any F11 F8 _), ?_⟩
 rintro e wk12 ⟨c12, rfl, F12, ex⟩
 refine ⟨_, rfl, ex, ?_⟩
 replace E := E.ext ex
 replace B3 := B3.ext ex
 replace B4 := B4.ext ex
 replace B5 := B5.ext ex
 replace B6 := B6.ext ex
 replace B7 := B7.ext ex
 replace Bg8 := Bg8.ext ex
 replace Bg9 := Bg9.ext ex
 replace Bg10 := Bg10.ext ex
 replace Bg11 := Bg11.ext ex
 replace X0 := X0.ext ex
 obtain ⟨f12, rfl, F12⟩ := F12.fe
 refine wf_call (j := 5) (dst := some 42) ⟨(fall (flA_runs rfl (by kernel_rfl)) (fall (flA_runs rfl (by kernel_rfl)) fall_nil)), by decide, by decide, (fall (⟨rfl, by decide⟩) (fall (⟨rfl, by decide⟩) fall_nil)), (fall (mem_of_has (by kernel_rfl)) (fall (mem_of_has (by kernel_rfl)) fall_nil))⟩ (by kernel_rfl) (fall (by decide) (fall (by decide) fall_nil)) rfl Tryz.func152 rfl rfl rfl (fall (by decide) (fall (by decide) fall_nil)) rfl ?_
 intro wf3_5 ex exb
 replace E := E.ext ex
 replace B3 := B3.ext ex
 replace B4 := B4.ext ex
 replace B5 := B5.ext ex
 replace B6 := B6.ext ex
 replace B7 := B7.ext ex
 replace Bg8 := Bg8.ext ex
 replace Bg9 := Bg9.ext ex
 replace Bg10 := Bg10.ext ex
 replace Bg11 := Bg11.ext ex
 replace X0 := X0.ext ex
 refine ⟨_, (Fmul_any F10 F9 _), ?_⟩
 rintro e wk13 ⟨c13, rfl, F13, ex⟩
 refine ⟨_, rfl, ex, ?_⟩
 replace E := E.ext ex
 replace B3 := B3.ext ex
 replace B4 := B4.ext ex
 replace B5 := B5.ext ex
 replace B6 := B6.ext ex
 replace B7 := B7.ext ex
 replace Bg8 := Bg8.ext ex
 replace Bg9 := Bg9.ext ex
 replace Bg10 := Bg10.ext ex
 replace Bg11 := Bg11.ext ex
 replace X0 := X0.ext ex
 obtain ⟨f13, rfl, F13⟩ := F13.fe
 refine wf_land2 ⟨(fall (flA_runs rfl (by kernel_rfl)) (fall (flA_runs rfl (by kernel_rfl)) fall_nil)), by decide, by decide, (fall (⟨rfl, by decide⟩) (fall (⟨rfl, by decide⟩) fall_nil)), (fall (mem_of_has (by kernel_rfl)) (fall (mem_of_has (by kernel_rfl)) fall_nil))⟩ (by kernel_rfl) ?_
 rintro _ _ wl3 ex ⟨⟨g12, rfl, Bg12⟩, hg12⟩ ⟨⟨g13, rfl, Bg13⟩, hg13⟩ farg12_g13
 replace hg12 := hg12 g12 rfl
 replace hg13 := hg13 g13 rfl
 have neg12_g13 : g12 ≠ g13 := fun e => farg12_g13 g12 rfl (by rw [e]; rfl)
 replace E := E.ext ex
 replace B3 := B3.ext ex
 replace B4 := B4.ext ex
 replace B5 := B5.ext ex
 replace B6 := B6.ext ex
 replace B7 := B7.ext ex
 replace Bg8 := Bg8.ext ex
 replace Bg9 := Bg9.ext ex
 replace Bg10 := Bg10.ext ex
 replace Bg11 := Bg11.ext ex
 replace X0 := X0.ext ex
 refine wn_one 8 (by kernel_rfl) ?_
 refine on_ef rfl (ef_storeW rfl rfl (by rw [fe_size]; kernel_rfl) Bg12 (by rw [fe_size, fe_size]) (fe_one _)) rfl ?_
 rintro _ wn3_8 ⟨rfl, Bg12, cg⟩
 replace X0 := X0.chg cg hg12
 refine ⟨X0, ?_⟩
 replace E := E_0.ext X0
 replace B3 := B3_0.ext X0
 replace B4 := B4_0.ext X0
 replace B5 := B5_0.ext X0
 replace B6 := B6_0.ext X0
 replace B7 := B7_0.ext X0
 replace Bg8 := Bg8_0.ext X0
 replace Bg9 := Bg9_0.ext X0
 replace Bg10 := Bg10_0.ext X0
 replace Bg11 := Bg11_0.ext X0
 replace Bg13 := Bg13.chg cg (by omega)
 refine wn_one 9 (by kernel_rfl) ?_
 refine on_ef rfl (ef_storeW rfl rfl (by rw [fe_size]; kernel_rfl) Bg13 (by rw [fe_size, fe_size]) (fe_one _)) rfl ?_
 rintro _ wn3_9 ⟨rfl, Bg13, cg⟩
 replace X0 := X0.chg cg hg13
 refine ⟨X0, ?_⟩
 replace E := E_0.ext X0
 replace B3 := B3_0.ext X0
 replace B4 := B4_0.ext X0
 replace B5 := B5_0.ext X0
 replace B6 := B6_0.ext X0
 replace B7 := B7_0.ext X0
 replace Bg8 := Bg8_0.ext X0
 replace Bg9 := Bg9_0.ext X0
 replace Bg10 := Bg10_0.ext X0
 replace Bg11 := Bg11_0.ext X0
 replace Bg12 := Bg12.chg cg (by omega)
 refine wn_done (by kernel_rfl) ?_
 refine wq_nop ?_
 refine wq_then_norm (hK4 ?_)
 refine wc_seq ?_; intro K5 hK5
 refine wc_drawB (by kernel_rfl) 8 rfl ?_; intro wd4 ex hd4
 replace E := E.ext ex
 replace B3 := B3.ext ex
 replace B4 := B4.ext ex
 replace B5 := B5.ext ex
 replace B6 := B6.ext ex
 replace B7 := B7.ext ex
 replace Bg8 := Bg8.ext ex
 replace Bg9 := Bg9.ext ex
 replace Bg10 := Bg10.ext ex
 replace Bg11 := Bg11.ext ex
 replace Bg12 := Bg12.ext ex
 replace Bg13 := Bg13.ext ex
 have E_0 := E
 have B3_0 := B3
 have B4_0 := B4
 have B5_0 := B5
 have B6_0 := B6
 have B7_0 := B7
 have Bg8_0 := Bg8
 have Bg9_0 := Bg9
 have Bg10_0 := Bg10
 have Bg11_0 := Bg11
 have Bg12_0 := Bg12
 have Bg13_0 := Bg13
 have X0 := Ext.refl wd4
 refine wn_y 0 rfl (by kernel_rfl) (y_lE rfl Bg8_0) rfl ?_
 refine wn_y 2 rfl (by kernel_rfl) (y_lE rfl Bg9_0) rfl ?_
 refine wf_start (fl := [flA 4 14 135 (fe (fun _ => 0)), flA 5 15 135 (fe (fun _ => 0))]) rfl ?_
 refine wf_call (j := 1) (dst := some 44) ⟨(fall (flA_runs rfl (by kernel_rfl)) (fall (flA_runs rfl (by kernel_rfl)) fall_nil)), by decide, by decide, (fall (⟨rfl, by decide⟩) (fall (⟨rfl, by decide⟩) fall_nil)), (fall (mem_of_has (by kernel_rfl)) (fall (mem_of_has (by kernel_rfl)) fall_nil))⟩ (by kernel_rfl) (fall (by decide) (fall (by decide) fall_nil)) rfl Tryz.func222 rfl rfl rfl (fall (by decide) (fall (by decide) fall_nil)) rfl ?_
 intro wf4_1 ex exb
 replace E := E.ext ex
 replace B3 := B3.ext ex
 replace B4 := B4.ext ex
 replace B5 := B5.ext ex
 replace B6 := B6.ext ex
 replace B7 := B7.ext ex
 replace Bg8 := Bg8.ext ex
 replace Bg9 := Bg9.ext ex
 replace Bg10 := Bg10.ext ex
 replace Bg11 := Bg11.ext ex
 replace Bg12 := Bg12.ext ex
 replace Bg13 := Bg13.ext ex
 replace X0 := X0.ext ex
 refine ⟨_, (Fsquare_any F8 _), ?_⟩
 rintro e wk14 ⟨c14, rfl, F14, ex⟩
 refine ⟨_, rfl, ex, ?_⟩
 replace E := E.ext ex
 replace B3 := B3.ext ex
 replace B4 := B4.ext ex
 replace B5 := B5.ext ex
 replace B6 := B6.ext ex
 replace B7 := B7.ext ex
 replace Bg8 := Bg8.ext ex
 replace Bg9 := Bg9.ext ex
 replace Bg10 := Bg10.ext ex
 replace Bg11 := Bg11.ext ex
 replace Bg12 := Bg12.ext ex
 replace Bg13 := Bg13.ext ex
 replace X0 := X0.ext ex
 obtain ⟨f14, rfl, F14⟩ := F14.fe
 refine wf_call (j := 3) (dst := some 46) ⟨(fall (flA_runs rfl (by kernel_rfl)) (fall (flA_runs rfl (by kernel_rfl)) fall_nil)), by decide, by decide, (fall (⟨rfl, by decide⟩) (fall (⟨rfl, by decide⟩) fall_nil)), (fall (mem_of_has (by kernel_rfl)) (fall (mem_of_has (by kernel_rfl)) fall_nil))⟩ (by kernel_rfl) (fall (by decide) (fall (by decide) fall_nil)) rfl Tryz.func222 rfl rfl rfl (fall (by decide) (fall (by decide) fall_nil)) rfl ?_
 intro wf4_3 ex exb
 replace E := E.ext ex
 replace B3 := B3.ext ex
 replace B4 := B4.ext ex
 replace B5 := B5.ext ex
 replace B6 := B6.ext ex
 replace B7 := B7.ext ex
 replace Bg8 := Bg8.ext ex
 replace Bg9 := Bg9.ext ex
 replace Bg10 := Bg10.ext ex
 replace Bg11 := Bg11.ext ex
 replace Bg12 := Bg12.ext ex
 replace Bg13 := Bg13.ext ex
 replace X0 := X0.ext ex
 refine ⟨_, (Fsquare_any F9 _), ?_⟩
 rintro e wk15 ⟨c15, rfl, F15, ex⟩
 refine ⟨_, rfl, ex, ?_⟩
 replace E := E.ext ex
 replace B3 := B3.ext ex
 replace B4 := B4.ext ex
 replace B5 := B5.ext ex
 replace B6 := B6.ext ex
 replace B7 := B7.ext ex
 replace Bg8 := Bg8.ext ex
 replace Bg9 := Bg9.ext ex
 replace Bg10 := Bg10.ext ex
 replace Bg11 := Bg11.ext ex
 replace Bg12 := Bg12.ext ex
 replace Bg13 := Bg13.ext ex
 replace X0 := X0.ext ex
 obtain ⟨f15, rfl, F15⟩ := F15.fe
 refine wf_land2 ⟨(fall (flA_runs rfl (by kernel_rfl)) (fall (flA_runs rfl (by kernel_rfl)) fall_nil)), by decide, by decide, (fall (⟨rfl, by decide⟩) (fall (⟨rfl, by decide⟩) fall_nil)), (fall (mem_of_has (by kernel_rfl)) (fall (mem_of_has (by kernel_rfl)) fall_nil))⟩ (by kernel_rfl) ?_
 rintro _ _ wl4 ex ⟨⟨g14, rfl, Bg14⟩, hg14⟩ ⟨⟨g15, rfl, Bg15⟩, hg15⟩ farg14_g15
 replace hg14 := hg14 g14 rfl
 replace hg15 := hg15 g15 rfl
 have neg14_g15 : g14 ≠ g15 := fun e => farg14_g15 g14 rfl (by rw [e]; rfl)
 replace E := E.ext ex
 replace B3 := B3.ext ex
 replace B4 := B4.ext ex
 replace B5 := B5.ext ex
 replace B6 := B6.ext ex
 replace B7 := B7.ext ex
 replace Bg8 := Bg8.ext ex
 replace Bg9 := Bg9.ext ex
 replace Bg10 := Bg10.ext ex
 replace Bg11 := Bg11.ext ex
 replace Bg12 := Bg12.ext ex
 replace Bg13 := Bg13.ext ex
 replace X0 := X0.ext ex
 refine wn_one 6 (by kernel_rfl) ?_
 refine on_ef rfl (ef_storeW rfl rfl (by rw [fe_size]; kernel_rfl) Bg14 (by rw [fe_size, fe_size]) (fe_one _)) rfl ?_
 rintro _ wn4_6 ⟨rfl, Bg14, cg⟩
 replace X0 := X0.chg cg hg14
 refine ⟨X0, ?_⟩
 replace E := E_0.ext X0
 replace B3 := B3_0.ext X0
 replace B4 := B4_0.ext X0
 replace B5 := B5_0.ext X0
 replace B6 := B6_0.ext X0
 replace B7 := B7_0.ext X0
 replace Bg8 := Bg8_0.ext X0
 replace Bg9 := Bg9_0.ext X0
 replace Bg10 := Bg10_0.ext X0
 replace Bg11 := Bg11_0.ext X0
 replace Bg12 := Bg12_0.ext X0
 replace Bg13 := Bg13_0.ext X0
 replace Bg15 := Bg15.chg cg (by omega)
 refine wn_one 7 (by kernel_rfl) ?_
 refine on_ef rfl (ef_storeW rfl rfl (by rw [fe_size]; kernel_rfl) Bg15 (by rw [fe_size, fe_size]) (fe_one _)) rfl ?_
 rintro _ wn4_7 ⟨rfl, Bg15, cg⟩
 replace X0 := X0.chg cg hg15
 refine ⟨X0, ?_⟩
 replace E := E_0.ext X0
 replace B3 := B3_0.ext X0
 replace B4 := B4_0.ext X0
 replace B5 := B5_0.ext X0
 replace B6 := B6_0.ext X0
 replace B7 := B7_0.ext X0
 replace Bg8 := Bg8_0.ext X0
 replace Bg9 := Bg9_0.ext X0
 replace Bg10 := Bg10_0.ext X0
 replace Bg11 := Bg11_0.ext X0
 replace Bg12 := Bg12_0.ext X0
 replace Bg13 := Bg13_0.ext X0
 replace Bg14 := Bg14.chg cg (by omega)
 refine wn_done (by kernel_rfl) ?_
 refine wq_nop ?_
 refine wq_then_norm (hK5 ?_)
 refine wc_seq ?_; intro K6 hK6
 refine wc_region ?_
 refine wl_y (y_lE rfl Bg14) rfl ?_
 refine wl_y (y_lE rfl Bg15) rfl ?_
 refine wl_call Tryz.func223 rfl rfl rfl (Fsub_any F14 F15 _) rfl ?_
 rintro e wk16 ⟨c16, rfl, F16, ex⟩
 refine ⟨_, rfl, ?_⟩
 replace E := E.ext ex
 replace B3 := B3.ext ex
 replace B4 := B4.ext ex
 replace B5 := B5.ext ex
 replace B6 := B6.ext ex
 replace B7 := B7.ext ex
 replace Bg8 := Bg8.ext ex
 replace Bg9 := Bg9.ext ex
 replace Bg10 := Bg10.ext ex
 replace Bg11 := Bg11.ext ex
 replace Bg12 := Bg12.ext ex
 replace Bg13 := Bg13.ext ex
 replace Bg14 := Bg14.ext ex
 replace Bg15 := Bg15.ext ex
 obtain ⟨f16, rfl, F16⟩ := F16.fe
 have E_g16 := E
 have B3_g16 := B3
 have B4_g16 := B4
 have B5_g16 := B5
 have B6_g16 := B6
 have B7_g16 := B7
 have Bg8_g16 := Bg8
 have Bg9_g16 := Bg9
 have Bg10_g16 := Bg10
 have Bg11_g16 := Bg11
 have Bg12_g16 := Bg12
 have Bg13_g16 := Bg13
 have Bg14_g16 := Bg14
 have Bg15_g16 := Bg15
 refine wl_ef (ef_alloc (Z := fe (fun _ => 0)) (by kernel_rfl)) rfl ?_
 rintro _ wn5_3 ⟨g16, rfl, Bg16, hg16, ex⟩
 have Xg16 := ex
 replace E := E.ext ex
 replace B3 := B3.ext ex
 replace B4 := B4.ext ex
 replace B5 := B5.ext ex
 replace B6 := B6.ext ex
 replace B7 := B7.ext ex
 replace Bg8 := Bg8.ext ex
 replace Bg9 := Bg9.ext ex
 replace Bg10 := Bg10.ext ex
 replace Bg11 := Bg11.ext ex
 replace Bg12 := Bg12.ext ex
 replace Bg13 := Bg13.ext ex
 replace Bg14 := Bg14.ext ex
 replace Bg15 := Bg15.ext ex
 refine wl_ef (ef_storeW rfl rfl (by rw [fe_size]; kernel_rfl) Bg16 (by rw [fe_size, fe_size]) (fe_one _)) rfl ?_
 rintro _ wn5_4 ⟨rfl, Bg16, cg⟩
 replace Xg16 := Xg16.chg cg hg16
 replace E := E_g16.ext Xg16
 replace B3 := B3_g16.ext Xg16
 replace B4 := B4_g16.ext Xg16
 replace B5 := B5_g16.ext Xg16
 replace B6 := B6_g16.ext Xg16
 replace B7 := B7_g16.ext Xg16
 replace Bg8 := Bg8_g16.ext Xg16
 replace Bg9 := Bg9_g16.ext Xg16
 replace Bg10 := Bg10_g16.ext Xg16
 replace Bg11 := Bg11_g16.ext Xg16
 replace Bg12 := Bg12_g16.ext Xg16
 replace Bg13 := Bg13_g16.ext Xg16
 replace Bg14 := Bg14_g16.ext Xg16
 replace Bg15 := Bg15_g16.ext Xg16
 refine wl_nil ?_
 refine wq_then_norm (hK6 ?_)
 refine wc_seq ?_; intro K7 hK7
 refine wc_draw (by kernel_rfl) 24 rfl ?_; intro wd6 ex hd6
 replace E := E.ext ex
 replace B3 := B3.ext ex
 replace B4 := B4.ext ex
 replace B5 := B5.ext ex
 replace B6 := B6.ext ex
 replace B7 := B7.ext ex
 replace Bg8 := Bg8.ext ex
 replace Bg9 := Bg9.ext ex
 replace Bg10 := Bg10.ext ex
 replace Bg11 := Bg11.ext ex
 replace Bg12 := Bg12.ext ex
 replace Bg13 := Bg13.ext ex
 replace Bg14 := Bg14.ext ex
 replace Bg15 := Bg15.ext ex
 replace Bg16 := Bg16.ext ex
 refine wm_y 0 rfl (by kernel_rfl) (y_lE rfl Bg14) rfl ?_
 refine wm_y 1 rfl (by kernel_rfl) (y_lE rfl Bg15) rfl ?_
 refine wm_y 3 rfl (by kernel_rfl) (y_lE rfl Bg16) rfl ?_
 refine wm_y 4 rfl (by kernel_rfl) (y_lE rfl Bg14) rfl ?_
 refine wm_y 5 rfl (by kernel_rfl) (y_lE rfl Bg16) rfl ?_
 refine wm_y 11 rfl (by kernel_rfl) (y_lE rfl Bg12) rfl ?_
 refine wm_y 12 rfl (by kernel_rfl) (y_lE rfl Bg13) rfl ?_
 refine wm_y 15 rfl (by kernel_rfl) (y_lE rfl B5) rfl ?_
 refine wm_y 16 rfl (by kernel_rfl) (y_lE rfl Bg12) rfl ?_
 refine wm_y 17 rfl (by kernel_rfl) (y_lE rfl Bg13) rfl ?_
 refine wm_one 2 (by kernel_rfl) ?_; refine om_call rfl Tryz.func152 rfl rfl rfl (Fmul_any F14 F15 _) rfl ?_
 rintro e wk21 ⟨c21, rfl, F21, ex⟩
 refine ⟨_, rfl, .inr ex, ?_⟩
 replace E := E.ext ex
 replace B3 := B3.ext ex
 replace B4 := B4.ext ex
 replace B5 := B5.ext ex
 replace B6 := B6.ext ex
 replace B7 := B7.ext ex
 replace Bg8 := Bg8.ext ex
 replace Bg9 := Bg9.ext ex
 replace Bg10 := Bg10.ext ex
 replace Bg11 := Bg11.ext ex
 replace Bg12 := Bg12.ext ex
 replace Bg13 := Bg13.ext ex
 replace Bg14 := Bg14.ext ex
 replace Bg15 := Bg15.ext ex
 replace Bg16 := Bg16.ext ex
 obtain ⟨f21, rfl, F21⟩ := F21.fe
 refine wm_one 6 (by kernel_rfl) ?_; refine om_call rfl Tryz.func151 rfl rfl rfl (Fnum_any 121665 _ (by omega)) rfl ?_
 rintro e wk22 ⟨c22, rfl, F22, ex⟩
 refine ⟨_, rfl, .inr ex, ?_⟩
 replace E := E.ext ex
 replace B3 := B3.ext ex
 replace B4 := B4.ext ex
 replace B5 := B5.ext ex
 replace B6 := B6.ext ex
 replace B7 := B7.ext ex
 replace Bg8 := Bg8.ext ex
 replace Bg9 := Bg9.ext ex
 replace Bg10 := Bg10.ext ex
 replace Bg11 := Bg11.ext ex
 replace Bg12 := Bg12.ext ex
 replace Bg13 := Bg13.ext ex
 replace Bg14 := Bg14.ext ex
 replace Bg15 := Bg15.ext ex
 replace Bg16 := Bg16.ext ex
 obtain ⟨f22, rfl, F22⟩ := F22.fe
 refine wm_one 7 (by kernel_rfl) ?_; refine om_call rfl Tryz.func152 rfl rfl rfl (Fmul_any F16 F22 _) rfl ?_
 rintro e wk23 ⟨c23, rfl, F23, ex⟩
 refine ⟨_, rfl, .inr ex, ?_⟩
 replace E := E.ext ex
 replace B3 := B3.ext ex
 replace B4 := B4.ext ex
 replace B5 := B5.ext ex
 replace B6 := B6.ext ex
 replace B7 := B7.ext ex
 replace Bg8 := Bg8.ext ex
 replace Bg9 := Bg9.ext ex
 replace Bg10 := Bg10.ext ex
 replace Bg11 := Bg11.ext ex
 replace Bg12 := Bg12.ext ex
 replace Bg13 := Bg13.ext ex
 replace Bg14 := Bg14.ext ex
 replace Bg15 := Bg15.ext ex
 replace Bg16 := Bg16.ext ex
 obtain ⟨f23, rfl, F23⟩ := F23.fe
 refine wm_one 8 (by kernel_rfl) ?_; refine om_call rfl Tryz.func159 rfl rfl rfl (Fadd_any F14 F23 _) rfl ?_
 rintro e wk24 ⟨c24, rfl, F24, ex⟩
 refine ⟨_, rfl, .inr ex, ?_⟩
 replace E := E.ext ex
 replace B3 := B3.ext ex
 replace B4 := B4.ext ex
 replace B5 := B5.ext ex
 replace B6 := B6.ext ex
 replace B7 := B7.ext ex
 replace Bg8 := Bg8.ext ex
 replace Bg9 := Bg9.ext ex
 replace Bg10 := Bg10.ext ex
 replace Bg11 := Bg11.ext ex
 replace Bg12 := Bg12.ext ex
 replace Bg13 := Bg13.ext ex
 replace Bg14 := Bg14.ext ex
 replace Bg15 := Bg15.ext ex
 replace Bg16 := Bg16.ext ex
 obtain ⟨f24, rfl, F24⟩ := F24.fe
 refine wm_one 9 (by kernel_rfl) ?_; refine om_call rfl Tryz.func152 rfl rfl rfl (Fmul_any F16 F24 _) rfl ?_
 rintro e wk25 ⟨c25, rfl, F25, ex⟩
 refine ⟨_, rfl, .inr ex, ?_⟩
 replace E := E.ext ex
 replace B3 := B3.ext ex
 replace B4 := B4.ext ex
 replace B5 := B5.ext ex
 replace B6 := B6.ext ex
 replace B7 := B7.ext ex
 replace Bg8 := Bg8.ext ex
 replace Bg9 := Bg9.ext ex
 replace Bg10 := Bg10.ext ex
 replace Bg11 := Bg11.ext ex
 replace Bg12 := Bg12.ext ex
 replace Bg13 := Bg13.ext ex
 replace Bg14 := Bg14.ext ex
 replace Bg15 := Bg15.ext ex
 replace Bg16 := Bg16.ext ex
 obtain ⟨f25, rfl, F25⟩ := F25.fe
 refine wm_z 10 rfl (by kernel_rfl) (fun _ => y_build rfl (cells := pr f21 f25) (by kernel_rfl)) rfl ?_
 refine wm_one 13 (by kernel_rfl) ?_; refine om_call rfl Tryz.func159 rfl rfl rfl (Fadd_any F12 F13 _) rfl ?_
 rintro e wk26 ⟨c26, rfl, F26, ex⟩
 refine ⟨_, rfl, .inr ex, ?_⟩
 replace E := E.ext ex
 replace B3 := B3.ext ex
 replace B4 := B4.ext ex
 replace B5 := B5.ext ex
 replace B6 := B6.ext ex
 replace B7 := B7.ext ex
 replace Bg8 := Bg8.ext ex
 replace Bg9 := Bg9.ext ex
 replace Bg10 := Bg10.ext ex
 replace Bg11 := Bg11.ext ex
 replace Bg12 := Bg12.ext ex
 replace Bg13 := Bg13.ext ex
 replace Bg14 := Bg14.ext ex
 replace Bg15 := Bg15.ext ex
 replace Bg16 := Bg16.ext ex
 obtain ⟨f26, rfl, F26⟩ := F26.fe
 refine wm_one 14 (by kernel_rfl) ?_; refine om_call rfl Tryz.func222 rfl rfl rfl (Fsquare_any F26 _) rfl ?_
 rintro e wk27 ⟨c27, rfl, F27, ex⟩
 refine ⟨_, rfl, .inr ex, ?_⟩
 replace E := E.ext ex
 replace B3 := B3.ext ex
 replace B4 := B4.ext ex
 replace B5 := B5.ext ex
 replace B6 := B6.ext ex
 replace B7 := B7.ext ex
 replace Bg8 := Bg8.ext ex
 replace Bg9 := Bg9.ext ex
 replace Bg10 := Bg10.ext ex
 replace Bg11 := Bg11.ext ex
 replace Bg12 := Bg12.ext ex
 replace Bg13 := Bg13.ext ex
 replace Bg14 := Bg14.ext ex
 replace Bg15 := Bg15.ext ex
 replace Bg16 := Bg16.ext ex
 obtain ⟨f27, rfl, F27⟩ := F27.fe
 refine wm_one 18 (by kernel_rfl) ?_; refine om_call rfl Tryz.func223 rfl rfl rfl (Fsub_any F12 F13 _) rfl ?_
 rintro e wk28 ⟨c28, rfl, F28, ex⟩
 refine ⟨_, rfl, .inr ex, ?_⟩
 replace E := E.ext ex
 replace B3 := B3.ext ex
 replace B4 := B4.ext ex
 replace B5 := B5.ext ex
 replace B6 := B6.ext ex
 replace B7 := B7.ext ex
 replace Bg8 := Bg8.ext ex
 replace Bg9 := Bg9.ext ex
 replace Bg10 := Bg10.ext ex
 replace Bg11 := Bg11.ext ex
 replace Bg12 := Bg12.ext ex
 replace Bg13 := Bg13.ext ex
 replace Bg14 := Bg14.ext ex
 replace Bg15 := Bg15.ext ex
 replace Bg16 := Bg16.ext ex
 obtain ⟨f28, rfl, F28⟩ := F28.fe
 refine wm_one 19 (by kernel_rfl) ?_; refine om_call rfl Tryz.func222 rfl rfl rfl (Fsquare_any F28 _) rfl ?_
 rintro e wk29 ⟨c29, rfl, F29, ex⟩
 refine ⟨_, rfl, .inr ex, ?_⟩
 replace E := E.ext ex
 replace B3 := B3.ext ex
 replace B4 := B4.ext ex
 replace B5 := B5.ext ex
 replace B6 := B6.ext ex
 replace B7 := B7.ext ex
 replace Bg8 := Bg8.ext ex
 replace Bg9 := Bg9.ext ex
 replace Bg10 := Bg10.ext ex
 replace Bg11 := Bg11.ext ex
 replace Bg12 := Bg12.ext ex
 replace Bg13 := Bg13.ext ex
 replace Bg14 := Bg14.ext ex
 replace Bg15 := Bg15.ext ex
 replace Bg16 := Bg16.ext ex
 obtain ⟨f29, rfl, F29⟩ := F29.fe
 refine wm_one 20 (by kernel_rfl) ?_; refine om_call rfl Tryz.func152 rfl rfl rfl (Fmul_any U F29 _) rfl ?_
 rintro e wk30 ⟨c30, rfl, F30, ex⟩
 refine ⟨_, rfl, .inr ex, ?_⟩
 replace E := E.ext ex
 replace B3 := B3.ext ex
 replace B4 := B4.ext ex
 replace B5 := B5.ext ex
 replace B6 := B6.ext ex
 replace B7 := B7.ext ex
 replace Bg8 := Bg8.ext ex
 replace Bg9 := Bg9.ext ex
 replace Bg10 := Bg10.ext ex
 replace Bg11 := Bg11.ext ex
 replace Bg12 := Bg12.ext ex
 replace Bg13 := Bg13.ext ex
 replace Bg14 := Bg14.ext ex
 replace Bg15 := Bg15.ext ex
 replace Bg16 := Bg16.ext ex
 obtain ⟨f30, rfl, F30⟩ := F30.fe
 refine wm_z 21 rfl (by kernel_rfl) (fun _ => y_build rfl (cells := pr f27 f30) (by kernel_rfl)) rfl ?_
 refine wm_one 22 (by kernel_rfl) ?_; refine om_ef rfl (ef_storeW rfl rfl (by rw [pr_size]; kernel_rfl) B6 (by rw [pr_size, pr_size]) (pr_one _ _)) rfl ?_
 rintro _ wk31 ⟨rfl, D6, cg⟩
 refine ⟨.inl rfl, ?_⟩
 replace B7 := B7.chg cg h67.symm; have E6 := E.chg cg hw6
 refine wm_one 23 (by kernel_rfl) ?_; refine om_ef rfl (ef_storeW rfl rfl (by rw [pr_size]; kernel_rfl) B7 (by rw [pr_size, pr_size]) (pr_one _ _)) rfl ?_
 rintro _ wk32 ⟨rfl, D7, cg⟩
 refine ⟨.inl rfl, ?_⟩
 replace D6 := D6.chg cg h67; have E7 := E6.chg cg hw7
 refine wm_done (by kernel_rfl) ?_
 refine wq_nop ?_
 refine wq_then_norm (hK7 ?_)
 refine wc_ret ?_
 refine hret rfl rfl D6 (pr_size _ _) D7 (pr_size _ _) ?_
 exact ⟨f21, f25, f27, f30, rfl, F21, F25, F27, F30, E7⟩
end Go.Proofs.YtjllhimhiekchaaGreat
