/- Points of the curve as the program holds them: sums, nothing, flat; bytes held against bytes. Points of the curve as the program holds them: the base, sums, turned about, told apart, bytes, whether right. Points of bytes; the layer's alive. -/
import Derived.Test.YtjllhimhiekchaaGreatEdC
import Derived.Test.YtjllhimhiekchaaGreatDhA
import Derived.Test.YtjllhimhiekchaaGreatWireR
namespace Go.Proofs.YtjllhimhiekchaaGreat
section
open Go.RowKit
section
attribute [local irreducible] Y Ef WL WC WK WQ WM OpM WN WF OpN
def pc (f1 f2 f3 f4 : Nat → Nat) (b : Bool) : Array Value := fe f1 ++ fe f2 ++ fe f3 ++ fe f4 ++ #[.bool b]
theorem pc_size (f1 f2 f3 f4 : Nat → Nat) (b : Bool) : (pc f1 f2 f3 f4 b).size = 21 := by simp [pc, fe_size]
theorem pc_one (f1 f2 f3 f4 : Nat → Nat) (b : Bool) : (pc f1 f2 f3 f4 b).all (·.oneCell') = true := by
 unfold pc
 rw [Array.all_append, Array.all_append, Array.all_append, Array.all_append, fe_one, fe_one, fe_one, fe_one]; simp [Value.oneCell']
theorem app_l {a b : Array Value} {j : Nat} {v : Value} (h : a[j]? = some v) : (a ++ b)[j]? = some v := by
 rw [Array.getElem?_append_left (Array.getElem?_eq_some_iff.1 h).1]; exact h
theorem app_r {a b : Array Value} {j k : Nat} {v : Value} (hk : a.size = k) (h : b[j]? = some v) : (a ++ b)[k + j]? = some v := by
 subst hk; rw [Array.getElem?_append_right (by omega), Nat.add_sub_cancel_left]; exact h
theorem pc_0 (f1 f2 f3 f4 : Nat → Nat) (b : Bool) (j : Nat) (v : Value) (h : (fe f1)[j]? = some v) : (pc f1 f2 f3 f4 b)[0 + j]? = some v := by
 rw [Nat.zero_add]; exact app_l (app_l (app_l (app_l h)))
theorem pc_1 (f1 f2 f3 f4 : Nat → Nat) (b : Bool) (j : Nat) (v : Value) (h : (fe f2)[j]? = some v) : (pc f1 f2 f3 f4 b)[5 + j]? = some v :=
 app_l (app_l (app_l (app_r (fe_size _) h)))
theorem pc_2 (f1 f2 f3 f4 : Nat → Nat) (b : Bool) (j : Nat) (v : Value) (h : (fe f3)[j]? = some v) : (pc f1 f2 f3 f4 b)[10 + j]? = some v :=
 app_l (app_l (app_r (by simp [fe_size]) h))
theorem pc_3 (f1 f2 f3 f4 : Nat → Nat) (b : Bool) (j : Nat) (v : Value) (h : (fe f4)[j]? = some v) : (pc f1 f2 f3 f4 b)[15 + j]? = some v :=
 app_l (app_r (by simp [fe_size]) h)
theorem pc_4 (f1 f2 f3 f4 : Nat → Nat) (b : Bool) : (pc f1 f2 f3 f4 b)[20]? = some (.bool b) :=
 app_r (j := 0) (k := 20) (by simp [fe_size]) rfl
section
variable {L : List (Nat × Value)} {w : World} {ty e : TypeId} {x : Operand} {g : Nat} {f1 f2 f3 f4 : Nat → Nat} {b : Bool}
theorem y_q (hx : ev L x = some (.pointer (some ⟨g, 0, none⟩))) (B : Blk w g e (pc f1 f2 f3 f4 b)) : Y Tryz.prog L w (.load 137 x) ty (.agg (pc f1 f2 f3 f4 b)) := y_loadw hx Tryz.underlying137 rfl (by rw [pc_size]; kernel_rfl) B
theorem y_q0 (hx : ev L x = some (.pointer (some ⟨g, 0, none⟩))) (B : Blk w g e (pc f1 f2 f3 f4 b)) : Y Tryz.prog L w (.load 135 x) ty (.agg (fe f1)) :=
 y_loadp hx Tryz.underlying135 rfl (by rw [fe_size]; kernel_rfl) fun j v hv => by rw [Addr.add_plain, B.cell]; exact pc_0 _ _ _ _ _ j v hv
theorem y_q1 (hx : ev L x = some (.pointer (some ⟨g, 5, none⟩))) (B : Blk w g e (pc f1 f2 f3 f4 b)) : Y Tryz.prog L w (.load 135 x) ty (.agg (fe f2)) :=
 y_loadp hx Tryz.underlying135 rfl (by rw [fe_size]; kernel_rfl) fun j v hv => by rw [Addr.add_plain, B.cell]; exact pc_1 _ _ _ _ _ j v hv
theorem y_q2 (hx : ev L x = some (.pointer (some ⟨g, 10, none⟩))) (B : Blk w g e (pc f1 f2 f3 f4 b)) : Y Tryz.prog L w (.load 135 x) ty (.agg (fe f3)) :=
 y_loadp hx Tryz.underlying135 rfl (by rw [fe_size]; kernel_rfl) fun j v hv => by rw [Addr.add_plain, B.cell]; exact pc_2 _ _ _ _ _ j v hv
theorem y_q3 (hx : ev L x = some (.pointer (some ⟨g, 15, none⟩))) (B : Blk w g e (pc f1 f2 f3 f4 b)) : Y Tryz.prog L w (.load 135 x) ty (.agg (fe f4)) :=
 y_loadp hx Tryz.underlying135 rfl (by rw [fe_size]; kernel_rfl) fun j v hv => by rw [Addr.add_plain, B.cell]; exact pc_3 _ _ _ _ _ j v hv
end
def PT (cs : Array Value) (P : Fp.F × Fp.F) : Prop := ∃ f1 f2 f3 f4 q, cs = pc f1 f2 f3 f4 true ∧ FE (fe f1) q.x ∧ FE (fe f2) q.y ∧ FE (fe f3) q.z ∧ FE (fe f4) q.t ∧ Ed.Rep q P
def PP (cs : Array Value) (P : Fp.F × Fp.F) : Prop := PT cs P ∨ ∃ f1 f2 f3 f4, cs = pc f1 f2 f3 f4 false ∧ P = Ed.O
theorem PT.size {cs : Array Value} {P : Fp.F × Fp.F} (h : PT cs P) : cs.size = 21 := by obtain ⟨f1, f2, f3, f4, q, rfl, _⟩ := h; exact pc_size _ _ _ _ _
theorem PT.one {cs : Array Value} {P : Fp.F × Fp.F} (h : PT cs P) : cs.all (·.oneCell') = true := by obtain ⟨f1, f2, f3, f4, q, rfl, _⟩ := h; exact pc_one _ _ _ _ _
theorem PP.size {cs : Array Value} {P : Fp.F × Fp.F} (h : PP cs P) : cs.size = 21 := by
 rcases h with h | ⟨f1, f2, f3, f4, rfl, _⟩
 ·exact h.size
 ·exact pc_size _ _ _ _ _
theorem PP.one {cs : Array Value} {P : Fp.F × Fp.F} (h : PP cs P) : cs.all (·.oneCell') = true := by
 rcases h with h | ⟨f1, f2, f3, f4, rfl, _⟩
 ·exact h.one
 ·exact pc_one _ _ _ _ _
def zf : Nat → Nat := fun _ => 0
theorem PP.zero : PP (pc zf zf zf zf false) Ed.O := .inr ⟨_, _, _, _, rfl, rfl⟩
theorem pof_any {f1 f2 : Nat → Nat} {x y : Fp.F} (X : FE (fe f1) x) (Yy : FE (fe f2) y) (w : World) :
  Calls Tryz.prog 155 #[.agg (fe f1), .agg (fe f2)] w fun e w' => ∃ cs, e = .returned (.agg cs) ∧ PT cs (x, y) ∧ Ext w w' := by
 have E := Ext.refl w
 refine vc_enterc1 (s := 21) 12 Tryz.func155 rfl rfl rfl Tryz.underlying137 rfl (by kernel_rfl) rfl ?_
 intro Q hret
 refine wc_seq ?_; intro K1 hK1
 refine wc_region ?_
 refine wl_ef (ef_box (cs := fe f1) rfl rfl) rfl ?_
 rintro _ w1 ⟨g2, rfl, B2, hg2, ex⟩
 replace E := E.ext ex
 skip
 refine wl_ef (ef_box (cs := fe f2) rfl rfl) rfl ?_
 rintro _ w2 ⟨g3, rfl, B3, hg3, ex⟩
 replace E := E.ext ex
 replace B2 := B2.ext ex
 skip
 have hz := E.size
 refine wl_ef (ef_alloc (Z := pc zf zf zf zf false) (by kernel_rfl)) rfl ?_
 rintro _ w3 ⟨g4, rfl, B4, hg4, ex⟩
 replace E := E.ext ex
 replace B2 := B2.ext ex
 replace B3 := B3.ext ex
 skip
 refine wl_nil ?_
 refine wq_then_norm (hK1 ?_)
 refine wc_seq ?_; intro K2 hK2
 refine wc_draw (by kernel_rfl) 8 rfl ?_; intro wd1 ex hd1
 replace E := E.ext ex
 replace B2 := B2.ext ex
 replace B3 := B3.ext ex
 replace B4 := B4.ext ex
 refine wm_y 0 rfl (by kernel_rfl) (y_lE rfl B2) rfl ?_
 refine wm_y 1 rfl (by kernel_rfl) (y_lE rfl B3) rfl ?_
 refine wm_y 3 rfl (by kernel_rfl) (y_lE rfl B2) rfl ?_
 refine wm_y 4 rfl (by kernel_rfl) (y_lE rfl B3) rfl ?_
 refine wm_one 2 (by kernel_rfl) ?_; refine om_call rfl Tryz.func151 rfl rfl rfl (Fnum_any 1 _ (by omega)) rfl ?_
 rintro e w5 ⟨c5, rfl, F5, ex⟩
 refine ⟨_, rfl, .inr ex, ?_⟩
 replace E := E.ext ex
 replace B2 := B2.ext ex
 replace B3 := B3.ext ex
 replace B4 := B4.ext ex
 obtain ⟨f5, rfl, F5⟩ := F5.fe
 refine wm_one 5 (by kernel_rfl) ?_; refine om_call rfl Tryz.func152 rfl rfl rfl (Fmul_any X Yy _) rfl ?_
 rintro e w6 ⟨c6, rfl, F6, ex⟩
 refine ⟨_, rfl, .inr ex, ?_⟩
 replace E := E.ext ex
 replace B2 := B2.ext ex
 replace B3 := B3.ext ex
 replace B4 := B4.ext ex
 obtain ⟨f6, rfl, F6⟩ := F6.fe
 refine wm_z 6 rfl (by kernel_rfl) (fun _ => y_build rfl (cells := pc f1 f2 f5 f6 true) (by kernel_rfl)) rfl ?_
 refine wm_one 7 (by kernel_rfl) ?_; refine om_ef rfl (ef_storeW rfl rfl (by rw [pc_size]; kernel_rfl) B4 (by rw [pc_size, pc_size]) (pc_one _ _ _ _ _)) rfl ?_
 rintro _ w7 ⟨rfl, B7, cg⟩
 refine ⟨.inl rfl, ?_⟩
 replace E := E.chg cg (by omega)
 refine wm_done (by kernel_rfl) ?_
 refine wq_nop ?_
 refine wq_then_norm (hK2 ?_)
 refine wc_ret ?_
 refine hret rfl B7 (pc_size _ _ _ _ _) ?_
 exact ⟨_, rfl, ⟨f1, f2, f5, f6, Ed.qof (x, y), rfl, X, Yy, F5, F6, Ed.rep_of _⟩, E⟩
theorem pd_any (w : World) : Calls Tryz.prog 158 #[] w fun e w' => ∃ f, e = .returned (.agg (fe f)) ∧ FE (fe f) Ed.d ∧ Ext w w' := by
 have E := Ext.refl w
 have hd : (-(Fp.of 121665)) * Fp.inv (Fp.of 121666) = Ed.d := (Ed.eq_div Ed.c_ne Ed.d_is'.symm).symm
 refine vc_enterc1 (s := 5) 6 Tryz.func158 rfl rfl rfl Tryz.underlying135 rfl (by kernel_rfl) rfl ?_
 intro Q hret
 refine wc_seq ?_; intro K1 hK1
 refine wc_region ?_
 refine wl_ef (ef_alloc (Z := fe zf) (by kernel_rfl)) rfl ?_
 rintro _ w1 ⟨g0, rfl, B0, hg0, ex⟩
 replace E := E.ext ex
 skip
 refine wl_nil ?_
 refine wq_then_norm (hK1 ?_)
 refine wc_seq ?_; intro K2 hK2
 refine wc_region ?_
 refine wl_call Tryz.func151 rfl rfl rfl (Fnum_any 121665 _ (by omega)) rfl ?_
 rintro e w2 ⟨c2, rfl, F2, ex⟩
 refine ⟨_, rfl, ?_⟩
 replace E := E.ext ex
 replace B0 := B0.ext ex
 skip
 refine wl_call Tryz.func205 rfl rfl rfl (Fneg_any F2 _) rfl ?_
 rintro e w3 ⟨c3, rfl, F3, ex⟩
 refine ⟨_, rfl, ?_⟩
 replace E := E.ext ex
 replace B0 := B0.ext ex
 skip
 refine wl_call Tryz.func151 rfl rfl rfl (Fnum_any 121666 _ (by omega)) rfl ?_
 rintro e w4 ⟨c4, rfl, F4, ex⟩
 refine ⟨_, rfl, ?_⟩
 replace E := E.ext ex
 replace B0 := B0.ext ex
 skip
 refine wl_call Tryz.func153 rfl rfl rfl (Finv_any F4 _) rfl ?_
 rintro e w5 ⟨c5, rfl, F5, ex⟩
 refine ⟨_, rfl, ?_⟩
 replace E := E.ext ex
 replace B0 := B0.ext ex
 skip
 refine wl_call Tryz.func152 rfl rfl rfl (Fmul_any F3 F5 _) rfl ?_
 rintro e w6 ⟨c6, rfl, F6, ex⟩
 refine ⟨_, rfl, ?_⟩
 replace E := E.ext ex
 replace B0 := B0.ext ex
 rw [hd] at F6; obtain ⟨f6, rfl, F6⟩ := F6.fe
 refine wl_ef (ef_storeW rfl rfl (by rw [fe_size]; kernel_rfl) B0 (by rw [fe_size, fe_size]) (fe_one _)) rfl ?_
 rintro _ w7 ⟨rfl, B7, cg⟩
 replace E := E.chg cg hg0
 refine wl_nil ?_
 refine wq_then_norm (hK2 ?_)
 refine wc_ret ?_
 refine hret rfl B7 (fe_size _) ?_
 exact ⟨f6, rfl, F6, E⟩
section
variable {P : Program} {ops : Array Oper} {Q : Exit → Act → World → Prop} {N : Nd} {L : List (Nat × Value)} {w w0 : World}
theorem wf_land4 {f g k l : Fl} {n : Nat} {listed : Array Bool} (ok : FlOk P ops w0 [f, g, k, l] listed N L) (hr : landOk ops (allOf listed [f, g, k, l]) [f.i, g.i, k.i, l.i] = true)
    (h : ∀ v u x y w1, Ext w w1 → Land w0 f v w1 → Land w0 g u w1 → Land w0 k x w1 → Land w0 l y w1 → Far v u → Far v x → Far v y → Far u x → Far u y → Far x y → WN P ops Q w0 n (allOf listed [f, g, k, l]) N ((f.d, v) :: (g.d, u) :: (k.d, x) :: (l.d, y) :: L) w1) : WF P ops Q w0 [f, g, k, l] n listed N L w :=
  wf_land ok (land_of hr) fun st w1 hst hu hx hR hap => by
    match st, hst, hu, hR, hap with
    | [(f', o1), (g', o2), (k', o3), (l', o4)], hst, hu, hR, hap =>
      simp only [List.map_cons, List.map_nil, List.cons.injEq, and_true] at hst
      obtain ⟨rfl, rfl, rfl, rfl⟩ := hst
      obtain ⟨v, hv⟩ := st_some hu (f', o1) (by simp)
      obtain ⟨u, hu'⟩ := st_some hu (g', o2) (by simp)
      obtain ⟨x, hx'⟩ := st_some hu (k', o3) (by simp)
      obtain ⟨y, hy'⟩ := st_some hu (l', o4) (by simp)
      simp only at hv hu' hx' hy'
      subst hv; subst hu'; subst hx'; subst hy'
      exact h v u x y w1 hx (hR (f', some v) (by simp) v rfl) (hR (g', some u) (by simp) u rfl) (hR (k', some x) (by simp) x rfl) (hR (l', some y) (by simp) y rfl) (fun b h1 h2 => hap.1 (g', some u) (by simp) v u b rfl rfl h1 h2) (fun b h1 h2 => hap.1 (k', some x) (by simp) v x b rfl rfl h1 h2) (fun b h1 h2 => hap.1 (l', some y) (by simp) v y b rfl rfl h1 h2) (fun b h1 h2 => hap.2.1 (k', some x) (by simp) u x b rfl rfl h1 h2) (fun b h1 h2 => hap.2.1 (l', some y) (by simp) u y b rfl rfl h1 h2) (fun b h1 h2 => hap.2.2.1 (l', some y) (by simp) x y b rfl rfl h1 h2)
end
theorem padd_any {p1 p2 p3 p4 q1 q2 q3 q4 fd : Nat → Nat} {p q : Ed.Q4} {P Q : Fp.F × Fp.F} (P1 : FE (fe p1) p.x) (P2 : FE (fe p2) p.y) (P3 : FE (fe p3) p.z) (P4 : FE (fe p4) p.t) (Q1 : FE (fe q1) q.x) (Q2 : FE (fe q2) q.y) (Q3 : FE (fe q3) q.z) (Q4 : FE (fe q4) q.t)
  (D : FE (fe fd) (Ed.d + Ed.d)) (hp : Ed.Rep p P) (hq : Ed.Rep q Q) (oP : Ed.On P) (oQ : Ed.On Q) (b c : Bool) (w : World) :
  Calls Tryz.prog 160 #[.agg (pc p1 p2 p3 p4 b), .agg (pc q1 q2 q3 q4 c), .agg (fe fd)] w fun e w' => ∃ cs, e = .returned (.agg cs) ∧ PT cs (Ed.add P Q) ∧ Ext w w' := by
 have E := Ext.refl w
 have hz0 : (fe fun _ => 0) = fe zf := rfl
 refine vc_enterc1 (s := 21) 77 Tryz.func160 rfl rfl rfl Tryz.underlying137 rfl (by kernel_rfl) rfl ?_
 intro Q hret
 refine wc_seq ?_; intro K1 hK1
 refine wc_region ?_
 refine wl_ef (ef_box (cs := pc p1 p2 p3 p4 b) rfl rfl) rfl ?_
 rintro _ w1 ⟨g3, rfl, B3, hg3, ex⟩
 replace E := E.ext ex
 skip
 refine wl_ef (ef_box (cs := pc q1 q2 q3 q4 c) rfl rfl) rfl ?_
 rintro _ w2 ⟨g4, rfl, B4, hg4, ex⟩
 replace E := E.ext ex
 replace B3 := B3.ext ex
 skip
 refine wl_ef (ef_box (cs := fe fd) rfl rfl) rfl ?_
 rintro _ w3 ⟨g5, rfl, B5, hg5, ex⟩
 replace E := E.ext ex
 replace B3 := B3.ext ex
 replace B4 := B4.ext ex
 skip
 have hz := E.size
 refine wl_ef (ef_alloc (Z := pc zf zf zf zf false) (by kernel_rfl)) rfl ?_
 rintro _ w4 ⟨g6, rfl, B6, hg6, ex⟩
 replace E := E.ext ex
 replace B3 := B3.ext ex
 replace B4 := B4.ext ex
 replace B5 := B5.ext ex
 have hw6 : w.heap.size ≤ g6 := by omega
 refine wl_nil ?_
 refine wq_then_norm (hK1 ?_)
 refine wc_seq ?_; intro K2 hK2
 refine wc_drawB (by kernel_rfl) 13 rfl ?_; intro wd1 ex hd1
 replace E := E.ext ex
 replace B3 := B3.ext ex
 replace B4 := B4.ext ex
 replace B5 := B5.ext ex
 replace B6 := B6.ext ex
 have E_0 := E
 have B3_0 := B3
 have B4_0 := B4
 have B5_0 := B5
 have B6_0 := B6
 have X0 := Ext.refl wd1
 refine wn_y 0 rfl (by kernel_rfl) (y_fieldAddr (o := 5) (s := 5) (off := 0) (o' := 5) rfl Tryz.underlying137 rfl (by kernel_rfl) rfl rfl) rfl ?_
 refine wn_y 1 rfl (by kernel_rfl) (y_q1 rfl B3_0) rfl ?_
 refine wn_y 2 rfl (by kernel_rfl) (y_fieldAddr (o := 0) (s := 5) (off := 0) (o' := 0) rfl Tryz.underlying137 rfl (by kernel_rfl) rfl rfl) rfl ?_
 refine wn_y 3 rfl (by kernel_rfl) (y_q0 rfl B3_0) rfl ?_
 refine wn_y 5 rfl (by kernel_rfl) (y_fieldAddr (o := 5) (s := 5) (off := 0) (o' := 5) rfl Tryz.underlying137 rfl (by kernel_rfl) rfl rfl) rfl ?_
 refine wn_y 6 rfl (by kernel_rfl) (y_q1 rfl B4_0) rfl ?_
 refine wn_y 7 rfl (by kernel_rfl) (y_fieldAddr (o := 0) (s := 5) (off := 0) (o' := 0) rfl Tryz.underlying137 rfl (by kernel_rfl) rfl rfl) rfl ?_
 refine wn_y 8 rfl (by kernel_rfl) (y_q0 rfl B4_0) rfl ?_
 refine wf_start (fl := [flA 11 7 135 (fe zf)]) rfl ?_
 refine wf_call (j := 4) (dst := some 19) ⟨(fall (flA_runs rfl (by kernel_rfl)) fall_nil), by decide, by decide, (fall (⟨rfl, by decide⟩) fall_nil), (fall (mem_of_has (by kernel_rfl)) fall_nil)⟩ (by kernel_rfl) (fall (by decide) fall_nil) rfl Tryz.func223 rfl rfl rfl (fall (by decide) fall_nil) rfl ?_
 intro wf1_4 ex exb
 replace E := E.ext ex
 replace B3 := B3.ext ex
 replace B4 := B4.ext ex
 replace B5 := B5.ext ex
 replace B6 := B6.ext ex
 replace X0 := X0.ext ex
 refine ⟨_, (Fsub_any P2 P1 _), ?_⟩
 rintro e wa1 ⟨c1, rfl, F1, ex⟩
 refine ⟨_, rfl, ex, ?_⟩
 replace E := E.ext ex
 replace B3 := B3.ext ex
 replace B4 := B4.ext ex
 replace B5 := B5.ext ex
 replace B6 := B6.ext ex
 replace X0 := X0.ext ex
 obtain ⟨f1, rfl, F1⟩ := F1.fe
 refine wf_call (j := 9) (dst := some 24) ⟨(fall (flA_runs rfl (by kernel_rfl)) fall_nil), by decide, by decide, (fall (⟨rfl, by decide⟩) fall_nil), (fall (mem_of_has (by kernel_rfl)) fall_nil)⟩ (by kernel_rfl) (fall (by decide) fall_nil) rfl Tryz.func223 rfl rfl rfl (fall (by decide) fall_nil) rfl ?_
 intro wf1_9 ex exb
 replace E := E.ext ex
 replace B3 := B3.ext ex
 replace B4 := B4.ext ex
 replace B5 := B5.ext ex
 replace B6 := B6.ext ex
 replace X0 := X0.ext ex
 refine ⟨_, (Fsub_any Q2 Q1 _), ?_⟩
 rintro e wa2 ⟨c2, rfl, F2, ex⟩
 refine ⟨_, rfl, ex, ?_⟩
 replace E := E.ext ex
 replace B3 := B3.ext ex
 replace B4 := B4.ext ex
 replace B5 := B5.ext ex
 replace B6 := B6.ext ex
 replace X0 := X0.ext ex
 obtain ⟨f2, rfl, F2⟩ := F2.fe
 refine wf_call (j := 10) (dst := some 25) ⟨(fall (flA_runs rfl (by kernel_rfl)) fall_nil), by decide, by decide, (fall (⟨rfl, by decide⟩) fall_nil), (fall (mem_of_has (by kernel_rfl)) fall_nil)⟩ (by kernel_rfl) (fall (by decide) fall_nil) rfl Tryz.func152 rfl rfl rfl (fall (by decide) fall_nil) rfl ?_
 intro wf1_10 ex exb
 replace E := E.ext ex
 replace B3 := B3.ext ex
 replace B4 := B4.ext ex
 replace B5 := B5.ext ex
 replace B6 := B6.ext ex
 replace X0 := X0.ext ex
 refine ⟨_, (Fmul_any F1 F2 _), ?_⟩
 rintro e wa3 ⟨c3, rfl, FA, ex⟩
 refine ⟨_, rfl, ex, ?_⟩
 replace E := E.ext ex
 replace B3 := B3.ext ex
 replace B4 := B4.ext ex
 replace B5 := B5.ext ex
 replace B6 := B6.ext ex
 replace X0 := X0.ext ex
 obtain ⟨fa, rfl, FA⟩ := FA.fe
 refine wf_land1 ⟨(fall (flA_runs rfl (by kernel_rfl)) fall_nil), by decide, by decide, (fall (⟨rfl, by decide⟩) fall_nil), (fall (mem_of_has (by kernel_rfl)) fall_nil)⟩ (by kernel_rfl) ?_
 rintro _ wl1 ex ⟨⟨g7, rfl, Bg7⟩, hg7⟩
 replace hg7 := hg7 g7 rfl
 replace E := E.ext ex
 replace B3 := B3.ext ex
 replace B4 := B4.ext ex
 replace B5 := B5.ext ex
 replace B6 := B6.ext ex
 replace X0 := X0.ext ex
 refine wn_one 12 (by kernel_rfl) ?_
 refine on_ef rfl (ef_storeW rfl rfl (by rw [fe_size]; kernel_rfl) Bg7 (by rw [fe_size, fe_size]) (fe_one _)) rfl ?_
 rintro _ wn1_12 ⟨rfl, Bg7, cg⟩
 replace X0 := X0.chg cg hg7
 refine ⟨X0, ?_⟩
 replace E := E_0.ext X0
 replace B3 := B3_0.ext X0
 replace B4 := B4_0.ext X0
 replace B5 := B5_0.ext X0
 replace B6 := B6_0.ext X0
 refine wn_done (by kernel_rfl) ?_
 refine wq_nop ?_
 refine wq_then_norm (hK2 ?_)
 refine wc_seq ?_; intro K3 hK3
 refine wc_drawB (by kernel_rfl) 13 rfl ?_; intro wd2 ex hd2
 replace E := E.ext ex
 replace B3 := B3.ext ex
 replace B4 := B4.ext ex
 replace B5 := B5.ext ex
 replace B6 := B6.ext ex
 replace Bg7 := Bg7.ext ex
 have E_0 := E
 have B3_0 := B3
 have B4_0 := B4
 have B5_0 := B5
 have B6_0 := B6
 have Bg7_0 := Bg7
 have X0 := Ext.refl wd2
 refine wn_y 0 rfl (by kernel_rfl) (y_fieldAddr (o := 5) (s := 5) (off := 0) (o' := 5) rfl Tryz.underlying137 rfl (by kernel_rfl) rfl rfl) rfl ?_
 refine wn_y 1 rfl (by kernel_rfl) (y_q1 rfl B3_0) rfl ?_
 refine wn_y 2 rfl (by kernel_rfl) (y_fieldAddr (o := 0) (s := 5) (off := 0) (o' := 0) rfl Tryz.underlying137 rfl (by kernel_rfl) rfl rfl) rfl ?_
 refine wn_y 3 rfl (by kernel_rfl) (y_q0 rfl B3_0) rfl ?_
 refine wn_y 5 rfl (by kernel_rfl) (y_fieldAddr (o := 5) (s := 5) (off := 0) (o' := 5) rfl Tryz.underlying137 rfl (by kernel_rfl) rfl rfl) rfl ?_
 refine wn_y 6 rfl (by kernel_rfl) (y_q1 rfl B4_0) rfl ?_
 refine wn_y 7 rfl (by kernel_rfl) (y_fieldAddr (o := 0) (s := 5) (off := 0) (o' := 0) rfl Tryz.underlying137 rfl (by kernel_rfl) rfl rfl) rfl ?_
 refine wn_y 8 rfl (by kernel_rfl) (y_q0 rfl B4_0) rfl ?_
 refine wf_start (fl := [flA 11 8 135 (fe zf)]) rfl ?_
 refine wf_call (j := 4) (dst := some 30) ⟨(fall (flA_runs rfl (by kernel_rfl)) fall_nil), by decide, by decide, (fall (⟨rfl, by decide⟩) fall_nil), (fall (mem_of_has (by kernel_rfl)) fall_nil)⟩ (by kernel_rfl) (fall (by decide) fall_nil) rfl Tryz.func159 rfl rfl rfl (fall (by decide) fall_nil) rfl ?_
 intro wf2_4 ex exb
 replace E := E.ext ex
 replace B3 := B3.ext ex
 replace B4 := B4.ext ex
 replace B5 := B5.ext ex
 replace B6 := B6.ext ex
 replace Bg7 := Bg7.ext ex
 replace X0 := X0.ext ex
 refine ⟨_, (Fadd_any P2 P1 _), ?_⟩
 rintro e wb1 ⟨c1, rfl, F3, ex⟩
 refine ⟨_, rfl, ex, ?_⟩
 replace E := E.ext ex
 replace B3 := B3.ext ex
 replace B4 := B4.ext ex
 replace B5 := B5.ext ex
 replace B6 := B6.ext ex
 replace Bg7 := Bg7.ext ex
 replace X0 := X0.ext ex
 obtain ⟨f3, rfl, F3⟩ := F3.fe
 refine wf_call (j := 9) (dst := some 35) ⟨(fall (flA_runs rfl (by kernel_rfl)) fall_nil), by decide, by decide, (fall (⟨rfl, by decide⟩) fall_nil), (fall (mem_of_has (by kernel_rfl)) fall_nil)⟩ (by kernel_rfl) (fall (by decide) fall_nil) rfl Tryz.func159 rfl rfl rfl (fall (by decide) fall_nil) rfl ?_
 intro wf2_9 ex exb
 replace E := E.ext ex
 replace B3 := B3.ext ex
 replace B4 := B4.ext ex
 replace B5 := B5.ext ex
 replace B6 := B6.ext ex
 replace Bg7 := Bg7.ext ex
 replace X0 := X0.ext ex
 refine ⟨_, (Fadd_any Q2 Q1 _), ?_⟩
 rintro e wb2 ⟨c2, rfl, F4, ex⟩
 refine ⟨_, rfl, ex, ?_⟩
 replace E := E.ext ex
 replace B3 := B3.ext ex
 replace B4 := B4.ext ex
 replace B5 := B5.ext ex
 replace B6 := B6.ext ex
 replace Bg7 := Bg7.ext ex
 replace X0 := X0.ext ex
 obtain ⟨f4, rfl, F4⟩ := F4.fe
 refine wf_call (j := 10) (dst := some 36) ⟨(fall (flA_runs rfl (by kernel_rfl)) fall_nil), by decide, by decide, (fall (⟨rfl, by decide⟩) fall_nil), (fall (mem_of_has (by kernel_rfl)) fall_nil)⟩ (by kernel_rfl) (fall (by decide) fall_nil) rfl Tryz.func152 rfl rfl rfl (fall (by decide) fall_nil) rfl ?_
 intro wf2_10 ex exb
 replace E := E.ext ex
 replace B3 := B3.ext ex
 replace B4 := B4.ext ex
 replace B5 := B5.ext ex
 replace B6 := B6.ext ex
 replace Bg7 := Bg7.ext ex
 replace X0 := X0.ext ex
 refine ⟨_, (Fmul_any F3 F4 _), ?_⟩
 rintro e wb3 ⟨c3, rfl, FB, ex⟩
 refine ⟨_, rfl, ex, ?_⟩
 replace E := E.ext ex
 replace B3 := B3.ext ex
 replace B4 := B4.ext ex
 replace B5 := B5.ext ex
 replace B6 := B6.ext ex
 replace Bg7 := Bg7.ext ex
 replace X0 := X0.ext ex
 obtain ⟨fb, rfl, FB⟩ := FB.fe
 refine wf_land1 ⟨(fall (flA_runs rfl (by kernel_rfl)) fall_nil), by decide, by decide, (fall (⟨rfl, by decide⟩) fall_nil), (fall (mem_of_has (by kernel_rfl)) fall_nil)⟩ (by kernel_rfl) ?_
 rintro _ wl2 ex ⟨⟨g8, rfl, Bg8⟩, hg8⟩
 replace hg8 := hg8 g8 rfl
 replace E := E.ext ex
 replace B3 := B3.ext ex
 replace B4 := B4.ext ex
 replace B5 := B5.ext ex
 replace B6 := B6.ext ex
 replace Bg7 := Bg7.ext ex
 replace X0 := X0.ext ex
 refine wn_one 12 (by kernel_rfl) ?_
 refine on_ef rfl (ef_storeW rfl rfl (by rw [fe_size]; kernel_rfl) Bg8 (by rw [fe_size, fe_size]) (fe_one _)) rfl ?_
 rintro _ wn2_12 ⟨rfl, Bg8, cg⟩
 replace X0 := X0.chg cg hg8
 refine ⟨X0, ?_⟩
 replace E := E_0.ext X0
 replace B3 := B3_0.ext X0
 replace B4 := B4_0.ext X0
 replace B5 := B5_0.ext X0
 replace B6 := B6_0.ext X0
 replace Bg7 := Bg7_0.ext X0
 refine wn_done (by kernel_rfl) ?_
 refine wq_nop ?_
 refine wq_then_norm (hK3 ?_)
 refine wc_seq ?_; intro K4 hK4
 refine wc_drawB (by kernel_rfl) 9 rfl ?_; intro wd3 ex hd3
 replace E := E.ext ex
 replace B3 := B3.ext ex
 replace B4 := B4.ext ex
 replace B5 := B5.ext ex
 replace B6 := B6.ext ex
 replace Bg7 := Bg7.ext ex
 replace Bg8 := Bg8.ext ex
 have E_0 := E
 have B3_0 := B3
 have B4_0 := B4
 have B5_0 := B5
 have B6_0 := B6
 have Bg7_0 := Bg7
 have Bg8_0 := Bg8
 have X0 := Ext.refl wd3
 refine wn_y 0 rfl (by kernel_rfl) (y_fieldAddr (o := 15) (s := 5) (off := 0) (o' := 15) rfl Tryz.underlying137 rfl (by kernel_rfl) rfl rfl) rfl ?_
 refine wn_y 1 rfl (by kernel_rfl) (y_q3 rfl B3_0) rfl ?_
 refine wn_y 2 rfl (by kernel_rfl) (y_lE rfl B5_0) rfl ?_
 refine wn_y 4 rfl (by kernel_rfl) (y_fieldAddr (o := 15) (s := 5) (off := 0) (o' := 15) rfl Tryz.underlying137 rfl (by kernel_rfl) rfl rfl) rfl ?_
 refine wn_y 5 rfl (by kernel_rfl) (y_q3 rfl B4_0) rfl ?_
 refine wf_start (fl := [flA 7 9 135 (fe zf)]) rfl ?_
 refine wf_call (j := 3) (dst := some 40) ⟨(fall (flA_runs rfl (by kernel_rfl)) fall_nil), by decide, by decide, (fall (⟨rfl, by decide⟩) fall_nil), (fall (mem_of_has (by kernel_rfl)) fall_nil)⟩ (by kernel_rfl) (fall (by decide) fall_nil) rfl Tryz.func152 rfl rfl rfl (fall (by decide) fall_nil) rfl ?_
 intro wf3_3 ex exb
 replace E := E.ext ex
 replace B3 := B3.ext ex
 replace B4 := B4.ext ex
 replace B5 := B5.ext ex
 replace B6 := B6.ext ex
 replace Bg7 := Bg7.ext ex
 replace Bg8 := Bg8.ext ex
 replace X0 := X0.ext ex
 refine ⟨_, (Fmul_any P4 D _), ?_⟩
 rintro e wc1 ⟨c1, rfl, F5, ex⟩
 refine ⟨_, rfl, ex, ?_⟩
 replace E := E.ext ex
 replace B3 := B3.ext ex
 replace B4 := B4.ext ex
 replace B5 := B5.ext ex
 replace B6 := B6.ext ex
 replace Bg7 := Bg7.ext ex
 replace Bg8 := Bg8.ext ex
 replace X0 := X0.ext ex
 obtain ⟨f5, rfl, F5⟩ := F5.fe
 refine wf_call (j := 6) (dst := some 43) ⟨(fall (flA_runs rfl (by kernel_rfl)) fall_nil), by decide, by decide, (fall (⟨rfl, by decide⟩) fall_nil), (fall (mem_of_has (by kernel_rfl)) fall_nil)⟩ (by kernel_rfl) (fall (by decide) fall_nil) rfl Tryz.func152 rfl rfl rfl (fall (by decide) fall_nil) rfl ?_
 intro wf3_6 ex exb
 replace E := E.ext ex
 replace B3 := B3.ext ex
 replace B4 := B4.ext ex
 replace B5 := B5.ext ex
 replace B6 := B6.ext ex
 replace Bg7 := Bg7.ext ex
 replace Bg8 := Bg8.ext ex
 replace X0 := X0.ext ex
 refine ⟨_, (Fmul_any F5 Q4 _), ?_⟩
 rintro e wc2 ⟨c2, rfl, FC, ex⟩
 refine ⟨_, rfl, ex, ?_⟩
 replace E := E.ext ex
 replace B3 := B3.ext ex
 replace B4 := B4.ext ex
 replace B5 := B5.ext ex
 replace B6 := B6.ext ex
 replace Bg7 := Bg7.ext ex
 replace Bg8 := Bg8.ext ex
 replace X0 := X0.ext ex
 obtain ⟨fc, rfl, FC⟩ := FC.fe
 refine wf_land1 ⟨(fall (flA_runs rfl (by kernel_rfl)) fall_nil), by decide, by decide, (fall (⟨rfl, by decide⟩) fall_nil), (fall (mem_of_has (by kernel_rfl)) fall_nil)⟩ (by kernel_rfl) ?_
 rintro _ wl3 ex ⟨⟨g9, rfl, Bg9⟩, hg9⟩
 replace hg9 := hg9 g9 rfl
 replace E := E.ext ex
 replace B3 := B3.ext ex
 replace B4 := B4.ext ex
 replace B5 := B5.ext ex
 replace B6 := B6.ext ex
 replace Bg7 := Bg7.ext ex
 replace Bg8 := Bg8.ext ex
 replace X0 := X0.ext ex
 refine wn_one 8 (by kernel_rfl) ?_
 refine on_ef rfl (ef_storeW rfl rfl (by rw [fe_size]; kernel_rfl) Bg9 (by rw [fe_size, fe_size]) (fe_one _)) rfl ?_
 rintro _ wn3_8 ⟨rfl, Bg9, cg⟩
 replace X0 := X0.chg cg hg9
 refine ⟨X0, ?_⟩
 replace E := E_0.ext X0
 replace B3 := B3_0.ext X0
 replace B4 := B4_0.ext X0
 replace B5 := B5_0.ext X0
 replace B6 := B6_0.ext X0
 replace Bg7 := Bg7_0.ext X0
 replace Bg8 := Bg8_0.ext X0
 refine wn_done (by kernel_rfl) ?_
 refine wq_nop ?_
 refine wq_then_norm (hK4 ?_)
 refine wc_seq ?_; intro K5 hK5
 refine wc_drawB (by kernel_rfl) 10 rfl ?_; intro wd4 ex hd4
 replace E := E.ext ex
 replace B3 := B3.ext ex
 replace B4 := B4.ext ex
 replace B5 := B5.ext ex
 replace B6 := B6.ext ex
 replace Bg7 := Bg7.ext ex
 replace Bg8 := Bg8.ext ex
 replace Bg9 := Bg9.ext ex
 have E_0 := E
 have B3_0 := B3
 have B4_0 := B4
 have B5_0 := B5
 have B6_0 := B6
 have Bg7_0 := Bg7
 have Bg8_0 := Bg8
 have Bg9_0 := Bg9
 have X0 := Ext.refl wd4
 refine wn_y 0 rfl (by kernel_rfl) (y_fieldAddr (o := 10) (s := 5) (off := 0) (o' := 10) rfl Tryz.underlying137 rfl (by kernel_rfl) rfl rfl) rfl ?_
 refine wn_y 1 rfl (by kernel_rfl) (y_q2 rfl B3_0) rfl ?_
 refine wn_y 2 rfl (by kernel_rfl) (y_fieldAddr (o := 10) (s := 5) (off := 0) (o' := 10) rfl Tryz.underlying137 rfl (by kernel_rfl) rfl rfl) rfl ?_
 refine wn_y 3 rfl (by kernel_rfl) (y_q2 rfl B3_0) rfl ?_
 refine wn_y 5 rfl (by kernel_rfl) (y_fieldAddr (o := 10) (s := 5) (off := 0) (o' := 10) rfl Tryz.underlying137 rfl (by kernel_rfl) rfl rfl) rfl ?_
 refine wn_y 6 rfl (by kernel_rfl) (y_q2 rfl B4_0) rfl ?_
 refine wf_start (fl := [flA 8 10 135 (fe zf)]) rfl ?_
 refine wf_call (j := 4) (dst := some 48) ⟨(fall (flA_runs rfl (by kernel_rfl)) fall_nil), by decide, by decide, (fall (⟨rfl, by decide⟩) fall_nil), (fall (mem_of_has (by kernel_rfl)) fall_nil)⟩ (by kernel_rfl) (fall (by decide) fall_nil) rfl Tryz.func159 rfl rfl rfl (fall (by decide) fall_nil) rfl ?_
 intro wf4_4 ex exb
 replace E := E.ext ex
 replace B3 := B3.ext ex
 replace B4 := B4.ext ex
 replace B5 := B5.ext ex
 replace B6 := B6.ext ex
 replace Bg7 := Bg7.ext ex
 replace Bg8 := Bg8.ext ex
 replace Bg9 := Bg9.ext ex
 replace X0 := X0.ext ex
 refine ⟨_, (Fadd_any P3 P3 _), ?_⟩
 rintro e wd1 ⟨c1, rfl, F6, ex⟩
 refine ⟨_, rfl, ex, ?_⟩
 replace E := E.ext ex
 replace B3 := B3.ext ex
 replace B4 := B4.ext ex
 replace B5 := B5.ext ex
 replace B6 := B6.ext ex
 replace Bg7 := Bg7.ext ex
 replace Bg8 := Bg8.ext ex
 replace Bg9 := Bg9.ext ex
 replace X0 := X0.ext ex
 obtain ⟨f6, rfl, F6⟩ := F6.fe
 refine wf_call (j := 7) (dst := some 51) ⟨(fall (flA_runs rfl (by kernel_rfl)) fall_nil), by decide, by decide, (fall (⟨rfl, by decide⟩) fall_nil), (fall (mem_of_has (by kernel_rfl)) fall_nil)⟩ (by kernel_rfl) (fall (by decide) fall_nil) rfl Tryz.func152 rfl rfl rfl (fall (by decide) fall_nil) rfl ?_
 intro wf4_7 ex exb
 replace E := E.ext ex
 replace B3 := B3.ext ex
 replace B4 := B4.ext ex
 replace B5 := B5.ext ex
 replace B6 := B6.ext ex
 replace Bg7 := Bg7.ext ex
 replace Bg8 := Bg8.ext ex
 replace Bg9 := Bg9.ext ex
 replace X0 := X0.ext ex
 refine ⟨_, (Fmul_any F6 Q3 _), ?_⟩
 rintro e wd2 ⟨c2, rfl, FEE, ex⟩
 refine ⟨_, rfl, ex, ?_⟩
 replace E := E.ext ex
 replace B3 := B3.ext ex
 replace B4 := B4.ext ex
 replace B5 := B5.ext ex
 replace B6 := B6.ext ex
 replace Bg7 := Bg7.ext ex
 replace Bg8 := Bg8.ext ex
 replace Bg9 := Bg9.ext ex
 replace X0 := X0.ext ex
 obtain ⟨fee, rfl, FEE⟩ := FEE.fe
 refine wf_land1 ⟨(fall (flA_runs rfl (by kernel_rfl)) fall_nil), by decide, by decide, (fall (⟨rfl, by decide⟩) fall_nil), (fall (mem_of_has (by kernel_rfl)) fall_nil)⟩ (by kernel_rfl) ?_
 rintro _ wl4 ex ⟨⟨g10, rfl, Bg10⟩, hg10⟩
 replace hg10 := hg10 g10 rfl
 replace E := E.ext ex
 replace B3 := B3.ext ex
 replace B4 := B4.ext ex
 replace B5 := B5.ext ex
 replace B6 := B6.ext ex
 replace Bg7 := Bg7.ext ex
 replace Bg8 := Bg8.ext ex
 replace Bg9 := Bg9.ext ex
 replace X0 := X0.ext ex
 refine wn_one 9 (by kernel_rfl) ?_
 refine on_ef rfl (ef_storeW rfl rfl (by rw [fe_size]; kernel_rfl) Bg10 (by rw [fe_size, fe_size]) (fe_one _)) rfl ?_
 rintro _ wn4_9 ⟨rfl, Bg10, cg⟩
 replace X0 := X0.chg cg hg10
 refine ⟨X0, ?_⟩
 replace E := E_0.ext X0
 replace B3 := B3_0.ext X0
 replace B4 := B4_0.ext X0
 replace B5 := B5_0.ext X0
 replace B6 := B6_0.ext X0
 replace Bg7 := Bg7_0.ext X0
 replace Bg8 := Bg8_0.ext X0
 replace Bg9 := Bg9_0.ext X0
 refine wn_done (by kernel_rfl) ?_
 refine wq_nop ?_
 refine wq_then_norm (hK5 ?_)
 refine wc_seq ?_; intro K6 hK6
 refine wc_drawB (by kernel_rfl) 20 rfl ?_; intro wd5 ex hd5
 replace E := E.ext ex
 replace B3 := B3.ext ex
 replace B4 := B4.ext ex
 replace B5 := B5.ext ex
 replace B6 := B6.ext ex
 replace Bg7 := Bg7.ext ex
 replace Bg8 := Bg8.ext ex
 replace Bg9 := Bg9.ext ex
 replace Bg10 := Bg10.ext ex
 have E_0 := E
 have B3_0 := B3
 have B4_0 := B4
 have B5_0 := B5
 have B6_0 := B6
 have Bg7_0 := Bg7
 have Bg8_0 := Bg8
 have Bg9_0 := Bg9
 have Bg10_0 := Bg10
 have X0 := Ext.refl wd5
 refine wn_y 0 rfl (by kernel_rfl) (y_lE rfl Bg8_0) rfl ?_
 refine wn_y 1 rfl (by kernel_rfl) (y_lE rfl Bg7_0) rfl ?_
 refine wn_y 3 rfl (by kernel_rfl) (y_lE rfl Bg10_0) rfl ?_
 refine wn_y 4 rfl (by kernel_rfl) (y_lE rfl Bg9_0) rfl ?_
 refine wn_y 6 rfl (by kernel_rfl) (y_lE rfl Bg10_0) rfl ?_
 refine wn_y 7 rfl (by kernel_rfl) (y_lE rfl Bg9_0) rfl ?_
 refine wn_y 9 rfl (by kernel_rfl) (y_lE rfl Bg8_0) rfl ?_
 refine wn_y 10 rfl (by kernel_rfl) (y_lE rfl Bg7_0) rfl ?_
 refine wf_start (fl := [flA 12 11 135 (fe zf), flA 13 12 135 (fe zf), flA 14 13 135 (fe zf), flA 15 14 135 (fe zf)]) rfl ?_
 refine wf_call (j := 2) (dst := some 54) ⟨(fall (flA_runs rfl (by kernel_rfl)) (fall (flA_runs rfl (by kernel_rfl)) (fall (flA_runs rfl (by kernel_rfl)) (fall (flA_runs rfl (by kernel_rfl)) fall_nil)))), by decide, by decide, (fall (⟨rfl, by decide⟩) (fall (⟨rfl, by decide⟩) (fall (⟨rfl, by decide⟩) (fall (⟨rfl, by decide⟩) fall_nil)))), (fall (mem_of_has (by kernel_rfl)) (fall (mem_of_has (by kernel_rfl)) (fall (mem_of_has (by kernel_rfl)) (fall (mem_of_has (by kernel_rfl)) fall_nil))))⟩ (by kernel_rfl) (fall (by decide) (fall (by decide) (fall (by decide) (fall (by decide) fall_nil)))) rfl Tryz.func223 rfl rfl rfl (fall (by decide) (fall (by decide) (fall (by decide) (fall (by decide) fall_nil)))) rfl ?_
 intro wf5_2 ex exb
 replace E := E.ext ex
 replace B3 := B3.ext ex
 replace B4 := B4.ext ex
 replace B5 := B5.ext ex
 replace B6 := B6.ext ex
 replace Bg7 := Bg7.ext ex
 replace Bg8 := Bg8.ext ex
 replace Bg9 := Bg9.ext ex
 replace Bg10 := Bg10.ext ex
 replace X0 := X0.ext ex
 refine ⟨_, (Fsub_any FB FA _), ?_⟩
 rintro e we1 ⟨c1, rfl, FF, ex⟩
 refine ⟨_, rfl, ex, ?_⟩
 replace E := E.ext ex
 replace B3 := B3.ext ex
 replace B4 := B4.ext ex
 replace B5 := B5.ext ex
 replace B6 := B6.ext ex
 replace Bg7 := Bg7.ext ex
 replace Bg8 := Bg8.ext ex
 replace Bg9 := Bg9.ext ex
 replace Bg10 := Bg10.ext ex
 replace X0 := X0.ext ex
 obtain ⟨ff, rfl, FF⟩ := FF.fe
 refine wf_call (j := 5) (dst := some 57) ⟨(fall (flA_runs rfl (by kernel_rfl)) (fall (flA_runs rfl (by kernel_rfl)) (fall (flA_runs rfl (by kernel_rfl)) (fall (flA_runs rfl (by kernel_rfl)) fall_nil)))), by decide, by decide, (fall (⟨rfl, by decide⟩) (fall (⟨rfl, by decide⟩) (fall (⟨rfl, by decide⟩) (fall (⟨rfl, by decide⟩) fall_nil)))), (fall (mem_of_has (by kernel_rfl)) (fall (mem_of_has (by kernel_rfl)) (fall (mem_of_has (by kernel_rfl)) (fall (mem_of_has (by kernel_rfl)) fall_nil))))⟩ (by kernel_rfl) (fall (by decide) (fall (by decide) (fall (by decide) (fall (by decide) fall_nil)))) rfl Tryz.func223 rfl rfl rfl (fall (by decide) (fall (by decide) (fall (by decide) (fall (by decide) fall_nil)))) rfl ?_
 intro wf5_5 ex exb
 replace E := E.ext ex
 replace B3 := B3.ext ex
 replace B4 := B4.ext ex
 replace B5 := B5.ext ex
 replace B6 := B6.ext ex
 replace Bg7 := Bg7.ext ex
 replace Bg8 := Bg8.ext ex
 replace Bg9 := Bg9.ext ex
 replace Bg10 := Bg10.ext ex
 replace X0 := X0.ext ex
 refine ⟨_, (Fsub_any FEE FC _), ?_⟩
 rintro e we2 ⟨c2, rfl, FG, ex⟩
 refine ⟨_, rfl, ex, ?_⟩
 replace E := E.ext ex
 replace B3 := B3.ext ex
 replace B4 := B4.ext ex
 replace B5 := B5.ext ex
 replace B6 := B6.ext ex
 replace Bg7 := Bg7.ext ex
 replace Bg8 := Bg8.ext ex
 replace Bg9 := Bg9.ext ex
 replace Bg10 := Bg10.ext ex
 replace X0 := X0.ext ex
 obtain ⟨fg, rfl, FG⟩ := FG.fe
 refine wf_call (j := 8) (dst := some 60) ⟨(fall (flA_runs rfl (by kernel_rfl)) (fall (flA_runs rfl (by kernel_rfl)) (fall (flA_runs rfl (by kernel_rfl)) (fall (flA_runs rfl (by kernel_rfl)) fall_nil)))), by decide, by decide, (fall (⟨rfl, by decide⟩) (fall (⟨rfl, by decide⟩) (fall (⟨rfl, by decide⟩) (fall (⟨rfl, by decide⟩) fall_nil)))), (fall (mem_of_has (by kernel_rfl)) (fall (mem_of_has (by kernel_rfl)) (fall (mem_of_has (by kernel_rfl)) (fall (mem_of_has (by kernel_rfl)) fall_nil))))⟩ (by kernel_rfl) (fall (by decide) (fall (by decide) (fall (by decide) (fall (by decide) fall_nil)))) rfl Tryz.func159 rfl rfl rfl (fall (by decide) (fall (by decide) (fall (by decide) (fall (by decide) fall_nil)))) rfl ?_
 intro wf5_8 ex exb
 replace E := E.ext ex
 replace B3 := B3.ext ex
 replace B4 := B4.ext ex
 replace B5 := B5.ext ex
 replace B6 := B6.ext ex
 replace Bg7 := Bg7.ext ex
 replace Bg8 := Bg8.ext ex
 replace Bg9 := Bg9.ext ex
 replace Bg10 := Bg10.ext ex
 replace X0 := X0.ext ex
 refine ⟨_, (Fadd_any FEE FC _), ?_⟩
 rintro e we3 ⟨c3, rfl, FH, ex⟩
 refine ⟨_, rfl, ex, ?_⟩
 replace E := E.ext ex
 replace B3 := B3.ext ex
 replace B4 := B4.ext ex
 replace B5 := B5.ext ex
 replace B6 := B6.ext ex
 replace Bg7 := Bg7.ext ex
 replace Bg8 := Bg8.ext ex
 replace Bg9 := Bg9.ext ex
 replace Bg10 := Bg10.ext ex
 replace X0 := X0.ext ex
 obtain ⟨fh, rfl, FH⟩ := FH.fe
 refine wf_call (j := 11) (dst := some 63) ⟨(fall (flA_runs rfl (by kernel_rfl)) (fall (flA_runs rfl (by kernel_rfl)) (fall (flA_runs rfl (by kernel_rfl)) (fall (flA_runs rfl (by kernel_rfl)) fall_nil)))), by decide, by decide, (fall (⟨rfl, by decide⟩) (fall (⟨rfl, by decide⟩) (fall (⟨rfl, by decide⟩) (fall (⟨rfl, by decide⟩) fall_nil)))), (fall (mem_of_has (by kernel_rfl)) (fall (mem_of_has (by kernel_rfl)) (fall (mem_of_has (by kernel_rfl)) (fall (mem_of_has (by kernel_rfl)) fall_nil))))⟩ (by kernel_rfl) (fall (by decide) (fall (by decide) (fall (by decide) (fall (by decide) fall_nil)))) rfl Tryz.func159 rfl rfl rfl (fall (by decide) (fall (by decide) (fall (by decide) (fall (by decide) fall_nil)))) rfl ?_
 intro wf5_11 ex exb
 replace E := E.ext ex
 replace B3 := B3.ext ex
 replace B4 := B4.ext ex
 replace B5 := B5.ext ex
 replace B6 := B6.ext ex
 replace Bg7 := Bg7.ext ex
 replace Bg8 := Bg8.ext ex
 replace Bg9 := Bg9.ext ex
 replace Bg10 := Bg10.ext ex
 replace X0 := X0.ext ex
 refine ⟨_, (Fadd_any FB FA _), ?_⟩
 rintro e we4 ⟨c4, rfl, FI, ex⟩
 refine ⟨_, rfl, ex, ?_⟩
 replace E := E.ext ex
 replace B3 := B3.ext ex
 replace B4 := B4.ext ex
 replace B5 := B5.ext ex
 replace B6 := B6.ext ex
 replace Bg7 := Bg7.ext ex
 replace Bg8 := Bg8.ext ex
 replace Bg9 := Bg9.ext ex
 replace Bg10 := Bg10.ext ex
 replace X0 := X0.ext ex
 obtain ⟨fi, rfl, FI⟩ := FI.fe
 refine wf_land4 ⟨(fall (flA_runs rfl (by kernel_rfl)) (fall (flA_runs rfl (by kernel_rfl)) (fall (flA_runs rfl (by kernel_rfl)) (fall (flA_runs rfl (by kernel_rfl)) fall_nil)))), by decide, by decide, (fall (⟨rfl, by decide⟩) (fall (⟨rfl, by decide⟩) (fall (⟨rfl, by decide⟩) (fall (⟨rfl, by decide⟩) fall_nil)))), (fall (mem_of_has (by kernel_rfl)) (fall (mem_of_has (by kernel_rfl)) (fall (mem_of_has (by kernel_rfl)) (fall (mem_of_has (by kernel_rfl)) fall_nil))))⟩ (by kernel_rfl) ?_
 rintro _ _ _ _ wl5 ex ⟨⟨g11, rfl, Bg11⟩, hg11⟩ ⟨⟨g12, rfl, Bg12⟩, hg12⟩ ⟨⟨g13, rfl, Bg13⟩, hg13⟩ ⟨⟨g14, rfl, Bg14⟩, hg14⟩ farg11_g12 farg11_g13 farg11_g14 farg12_g13 farg12_g14 farg13_g14
 replace hg11 := hg11 g11 rfl
 replace hg12 := hg12 g12 rfl
 replace hg13 := hg13 g13 rfl
 replace hg14 := hg14 g14 rfl
 have neg11_g12 : g11 ≠ g12 := fun e => farg11_g12 g11 rfl (by rw [e]; rfl)
 have neg11_g13 : g11 ≠ g13 := fun e => farg11_g13 g11 rfl (by rw [e]; rfl)
 have neg11_g14 : g11 ≠ g14 := fun e => farg11_g14 g11 rfl (by rw [e]; rfl)
 have neg12_g13 : g12 ≠ g13 := fun e => farg12_g13 g12 rfl (by rw [e]; rfl)
 have neg12_g14 : g12 ≠ g14 := fun e => farg12_g14 g12 rfl (by rw [e]; rfl)
 have neg13_g14 : g13 ≠ g14 := fun e => farg13_g14 g13 rfl (by rw [e]; rfl)
 replace E := E.ext ex
 replace B3 := B3.ext ex
 replace B4 := B4.ext ex
 replace B5 := B5.ext ex
 replace B6 := B6.ext ex
 replace Bg7 := Bg7.ext ex
 replace Bg8 := Bg8.ext ex
 replace Bg9 := Bg9.ext ex
 replace Bg10 := Bg10.ext ex
 replace X0 := X0.ext ex
 refine wn_one 16 (by kernel_rfl) ?_
 refine on_ef rfl (ef_storeW rfl rfl (by rw [fe_size]; kernel_rfl) Bg11 (by rw [fe_size, fe_size]) (fe_one _)) rfl ?_
 rintro _ wn5_16 ⟨rfl, Bg11, cg⟩
 replace X0 := X0.chg cg hg11
 refine ⟨X0, ?_⟩
 replace E := E_0.ext X0
 replace B3 := B3_0.ext X0
 replace B4 := B4_0.ext X0
 replace B5 := B5_0.ext X0
 replace B6 := B6_0.ext X0
 replace Bg7 := Bg7_0.ext X0
 replace Bg8 := Bg8_0.ext X0
 replace Bg9 := Bg9_0.ext X0
 replace Bg10 := Bg10_0.ext X0
 replace Bg12 := Bg12.chg cg (by omega)
 replace Bg13 := Bg13.chg cg (by omega)
 replace Bg14 := Bg14.chg cg (by omega)
 refine wn_one 17 (by kernel_rfl) ?_
 refine on_ef rfl (ef_storeW rfl rfl (by rw [fe_size]; kernel_rfl) Bg12 (by rw [fe_size, fe_size]) (fe_one _)) rfl ?_
 rintro _ wn5_17 ⟨rfl, Bg12, cg⟩
 replace X0 := X0.chg cg hg12
 refine ⟨X0, ?_⟩
 replace E := E_0.ext X0
 replace B3 := B3_0.ext X0
 replace B4 := B4_0.ext X0
 replace B5 := B5_0.ext X0
 replace B6 := B6_0.ext X0
 replace Bg7 := Bg7_0.ext X0
 replace Bg8 := Bg8_0.ext X0
 replace Bg9 := Bg9_0.ext X0
 replace Bg10 := Bg10_0.ext X0
 replace Bg11 := Bg11.chg cg (by omega)
 replace Bg13 := Bg13.chg cg (by omega)
 replace Bg14 := Bg14.chg cg (by omega)
 refine wn_one 18 (by kernel_rfl) ?_
 refine on_ef rfl (ef_storeW rfl rfl (by rw [fe_size]; kernel_rfl) Bg13 (by rw [fe_size, fe_size]) (fe_one _)) rfl ?_
 rintro _ wn5_18 ⟨rfl, Bg13, cg⟩
 replace X0 := X0.chg cg hg13
 refine ⟨X0, ?_⟩
 replace E := E_0.ext X0
 replace B3 := B3_0.ext X0
 replace B4 := B4_0.ext X0
 replace B5 := B5_0.ext X0
 replace B6 := B6_0.ext X0
 replace Bg7 := Bg7_0.ext X0
 replace Bg8 := Bg8_0.ext X0
 replace Bg9 := Bg9_0.ext X0
 replace Bg10 := Bg10_0.ext X0
 replace Bg11 := Bg11.chg cg (by omega)
 replace Bg12 := Bg12.chg cg (by omega)
 replace Bg14 := Bg14.chg cg (by omega)
 refine wn_one 19 (by kernel_rfl) ?_
 refine on_ef rfl (ef_storeW rfl rfl (by rw [fe_size]; kernel_rfl) Bg14 (by rw [fe_size, fe_size]) (fe_one _)) rfl ?_
 rintro _ wn5_19 ⟨rfl, Bg14, cg⟩
 replace X0 := X0.chg cg hg14
 refine ⟨X0, ?_⟩
 replace E := E_0.ext X0
 replace B3 := B3_0.ext X0
 replace B4 := B4_0.ext X0
 replace B5 := B5_0.ext X0
 replace B6 := B6_0.ext X0
 replace Bg7 := Bg7_0.ext X0
 replace Bg8 := Bg8_0.ext X0
 replace Bg9 := Bg9_0.ext X0
 replace Bg10 := Bg10_0.ext X0
 replace Bg11 := Bg11.chg cg (by omega)
 replace Bg12 := Bg12.chg cg (by omega)
 replace Bg13 := Bg13.chg cg (by omega)
 refine wn_done (by kernel_rfl) ?_
 refine wq_nop ?_
 refine wq_then_norm (hK6 ?_)
 refine wc_seq ?_; intro K7 hK7
 refine wc_draw (by kernel_rfl) 14 rfl ?_; intro wd6 ex hd6
 replace E := E.ext ex
 replace B3 := B3.ext ex
 replace B4 := B4.ext ex
 replace B5 := B5.ext ex
 replace B6 := B6.ext ex
 replace Bg7 := Bg7.ext ex
 replace Bg8 := Bg8.ext ex
 replace Bg9 := Bg9.ext ex
 replace Bg10 := Bg10.ext ex
 replace Bg11 := Bg11.ext ex
 replace Bg12 := Bg12.ext ex
 replace Bg13 := Bg13.ext ex
 replace Bg14 := Bg14.ext ex
 refine wm_y 0 rfl (by kernel_rfl) (y_lE rfl Bg11) rfl ?_
 refine wm_y 1 rfl (by kernel_rfl) (y_lE rfl Bg12) rfl ?_
 refine wm_y 3 rfl (by kernel_rfl) (y_lE rfl Bg13) rfl ?_
 refine wm_y 4 rfl (by kernel_rfl) (y_lE rfl Bg14) rfl ?_
 refine wm_y 6 rfl (by kernel_rfl) (y_lE rfl Bg12) rfl ?_
 refine wm_y 7 rfl (by kernel_rfl) (y_lE rfl Bg13) rfl ?_
 refine wm_y 9 rfl (by kernel_rfl) (y_lE rfl Bg11) rfl ?_
 refine wm_y 10 rfl (by kernel_rfl) (y_lE rfl Bg14) rfl ?_
 refine wm_one 2 (by kernel_rfl) ?_; refine om_call rfl Tryz.func152 rfl rfl rfl (Fmul_any FF FG _) rfl ?_
 rintro e wf1 ⟨c1, rfl, X1, ex⟩
 refine ⟨_, rfl, .inr ex, ?_⟩
 replace E := E.ext ex
 replace B3 := B3.ext ex
 replace B4 := B4.ext ex
 replace B5 := B5.ext ex
 replace B6 := B6.ext ex
 replace Bg7 := Bg7.ext ex
 replace Bg8 := Bg8.ext ex
 replace Bg9 := Bg9.ext ex
 replace Bg10 := Bg10.ext ex
 replace Bg11 := Bg11.ext ex
 replace Bg12 := Bg12.ext ex
 replace Bg13 := Bg13.ext ex
 replace Bg14 := Bg14.ext ex
 obtain ⟨x1, rfl, X1⟩ := X1.fe
 refine wm_one 5 (by kernel_rfl) ?_; refine om_call rfl Tryz.func152 rfl rfl rfl (Fmul_any FH FI _) rfl ?_
 rintro e wf2 ⟨c2, rfl, X2, ex⟩
 refine ⟨_, rfl, .inr ex, ?_⟩
 replace E := E.ext ex
 replace B3 := B3.ext ex
 replace B4 := B4.ext ex
 replace B5 := B5.ext ex
 replace B6 := B6.ext ex
 replace Bg7 := Bg7.ext ex
 replace Bg8 := Bg8.ext ex
 replace Bg9 := Bg9.ext ex
 replace Bg10 := Bg10.ext ex
 replace Bg11 := Bg11.ext ex
 replace Bg12 := Bg12.ext ex
 replace Bg13 := Bg13.ext ex
 replace Bg14 := Bg14.ext ex
 obtain ⟨x2, rfl, X2⟩ := X2.fe
 refine wm_one 8 (by kernel_rfl) ?_; refine om_call rfl Tryz.func152 rfl rfl rfl (Fmul_any FG FH _) rfl ?_
 rintro e wf3 ⟨c3, rfl, X3, ex⟩
 refine ⟨_, rfl, .inr ex, ?_⟩
 replace E := E.ext ex
 replace B3 := B3.ext ex
 replace B4 := B4.ext ex
 replace B5 := B5.ext ex
 replace B6 := B6.ext ex
 replace Bg7 := Bg7.ext ex
 replace Bg8 := Bg8.ext ex
 replace Bg9 := Bg9.ext ex
 replace Bg10 := Bg10.ext ex
 replace Bg11 := Bg11.ext ex
 replace Bg12 := Bg12.ext ex
 replace Bg13 := Bg13.ext ex
 replace Bg14 := Bg14.ext ex
 obtain ⟨x3, rfl, X3⟩ := X3.fe
 refine wm_one 11 (by kernel_rfl) ?_; refine om_call rfl Tryz.func152 rfl rfl rfl (Fmul_any FF FI _) rfl ?_
 rintro e wf4 ⟨c4, rfl, X4, ex⟩
 refine ⟨_, rfl, .inr ex, ?_⟩
 replace E := E.ext ex
 replace B3 := B3.ext ex
 replace B4 := B4.ext ex
 replace B5 := B5.ext ex
 replace B6 := B6.ext ex
 replace Bg7 := Bg7.ext ex
 replace Bg8 := Bg8.ext ex
 replace Bg9 := Bg9.ext ex
 replace Bg10 := Bg10.ext ex
 replace Bg11 := Bg11.ext ex
 replace Bg12 := Bg12.ext ex
 replace Bg13 := Bg13.ext ex
 replace Bg14 := Bg14.ext ex
 obtain ⟨x4, rfl, X4⟩ := X4.fe
 refine wm_z 12 rfl (by kernel_rfl) (fun _ => y_build rfl (cells := pc x1 x2 x3 x4 true) (by kernel_rfl)) rfl ?_
 refine wm_one 13 (by kernel_rfl) ?_; refine om_ef rfl (ef_storeW rfl rfl (by rw [pc_size]; kernel_rfl) B6 (by rw [pc_size, pc_size]) (pc_one _ _ _ _ _)) rfl ?_
 rintro _ wf5 ⟨rfl, D6, cg⟩
 refine ⟨.inl rfl, ?_⟩
 have E6 := E.chg cg hw6
 refine wm_done (by kernel_rfl) ?_
 refine wq_nop ?_
 refine wq_then_norm (hK7 ?_)
 refine wc_ret ?_
 refine hret rfl D6 (pc_size _ _ _ _ _) ?_
 exact ⟨_, rfl, ⟨x1, x2, x3, x4, Ed.qadd p q, rfl, X1, X2, X3, X4, Ed.rep_add hp hq oP oQ⟩, E6⟩
end
section
attribute [local irreducible] Y Ef WL WC WK WQ WM OpM WN WF OpN
theorem PT.congr {cs : Array Value} {P Q : Fp.F × Fp.F} (h : PT cs P) (e : P = Q) : PT cs Q := e ▸ h
theorem PT.pp {cs : Array Value} {P : Fp.F × Fp.F} (h : PT cs P) : PP cs P := .inl h
theorem pnothing_any (w : World) : Calls Tryz.prog 157 #[] w fun e w' => ∃ cs, e = .returned (.agg cs) ∧ PT cs Ed.O ∧ Ext w w' := by
 have E := Ext.refl w
 refine vc_enterc1 (s := 21) 4 Tryz.func157 rfl rfl rfl Tryz.underlying137 rfl (by kernel_rfl) rfl ?_
 intro Q hret
 refine wc_seq ?_; intro K1 hK1
 refine wc_region ?_
 refine wl_ef (ef_alloc (Z := pc zf zf zf zf false) (by kernel_rfl)) rfl ?_
 rintro _ w1 ⟨g0, rfl, B0, hg0, ex⟩
 replace E := E.ext ex
 skip
 refine wl_nil ?_
 refine wq_then_norm (hK1 ?_)
 refine wc_seq ?_; intro K2 hK2
 refine wc_region ?_
 refine wl_y (y_build rfl (cells := fe zf) (by kernel_rfl)) rfl ?_
 refine wl_call Tryz.func151 rfl rfl rfl (Fnum_any 1 _ (by omega)) rfl ?_
 rintro e w2 ⟨c2, rfl, F2, ex⟩
 refine ⟨_, rfl, ?_⟩
 replace E := E.ext ex
 replace B0 := B0.ext ex
 obtain ⟨f2, rfl, F2⟩ := F2.fe
 refine wl_call Tryz.func155 rfl rfl rfl (pof_any FE.zero F2 _) rfl ?_
 rintro e w3 ⟨c3, rfl, P3, ex⟩
 refine ⟨_, rfl, ?_⟩
 replace E := E.ext ex
 replace B0 := B0.ext ex
 skip
 refine wl_ef (ef_storeW rfl rfl (by rw [P3.size]; kernel_rfl) B0 (by rw [pc_size, P3.size]) P3.one) rfl ?_
 rintro _ w4 ⟨rfl, B4, cg⟩
 replace E := E.chg cg hg0
 refine wl_nil ?_
 refine wq_then_norm (hK2 ?_)
 refine wc_ret ?_
 refine hret rfl B4 P3.size ?_
 exact ⟨c3, rfl, P3.congr rfl, E⟩
theorem preal_t (f1 f2 f3 f4 : Nat → Nat) (w : World) : Calls Tryz.prog 156 #[.agg (pc f1 f2 f3 f4 true)] w fun e w' => e = .returned (.agg (pc f1 f2 f3 f4 true)) ∧ Ext w w' := by
 have E := Ext.refl w
 refine vc_enterc1 (s := 21) 8 Tryz.func156 rfl rfl rfl Tryz.underlying137 rfl (by kernel_rfl) rfl ?_
 intro Q hret
 refine wc_seq ?_; intro K1 hK1
 refine wc_region ?_
 refine wl_ef (ef_box (cs := pc f1 f2 f3 f4 true) rfl rfl) rfl ?_
 rintro _ w1 ⟨g1, rfl, B1, hg1, ex⟩
 replace E := E.ext ex
 skip
 have hz := E.size
 refine wl_ef (ef_alloc (Z := pc zf zf zf zf false) (by kernel_rfl)) rfl ?_
 rintro _ w2 ⟨g2, rfl, B2, hg2, ex⟩
 replace E := E.ext ex
 replace B1 := B1.ext ex
 skip
 refine wl_nil ?_
 refine wq_then_norm (hK1 ?_)
 refine wc_seq ?_; intro K2 hK2
 refine wc_seq ?_; intro K3 hK3
 refine wc_region ?_
 refine wl_y (y_fieldAddr (o := 20) (s := 1) (off := 0) (o' := 20) rfl Tryz.underlying137 rfl (by kernel_rfl) rfl rfl) rfl ?_
 refine wl_y (y_load1 rfl Tryz.underlying4 rfl (B1.get (pc_4 _ _ _ _ _))) rfl ?_
 refine wl_y (y_not rfl) rfl ?_
 refine wl_nil ?_
 refine wq_then_norm (hK3 ?_)
 refine wc_false rfl rfl ?_
 refine wc_skip ?_
 refine wq_then_norm (hK2 ?_)
 refine wc_seq ?_; intro K4 hK4
 refine wc_region ?_
 refine wl_y (y_q rfl B1) rfl ?_
 refine wl_ef (ef_storeW rfl rfl (by rw [pc_size]; kernel_rfl) B2 (by rw [pc_size, pc_size]) (pc_one _ _ _ _ _)) rfl ?_
 rintro _ w4 ⟨rfl, B4, cg⟩
 replace E := E.chg cg (by omega)
 refine wl_nil ?_
 refine wq_then_norm (hK4 ?_)
 refine wc_ret ?_
 refine hret rfl B4 (pc_size _ _ _ _ _) ?_
 exact ⟨rfl, E⟩
theorem preal_f (f1 f2 f3 f4 : Nat → Nat) (w : World) : Calls Tryz.prog 156 #[.agg (pc f1 f2 f3 f4 false)] w fun e w' => ∃ cs, e = .returned (.agg cs) ∧ PT cs Ed.O ∧ Ext w w' := by
 have E := Ext.refl w
 refine vc_enterc1 (s := 21) 8 Tryz.func156 rfl rfl rfl Tryz.underlying137 rfl (by kernel_rfl) rfl ?_
 intro Q hret
 refine wc_seq ?_; intro K1 hK1
 refine wc_region ?_
 refine wl_ef (ef_box (cs := pc f1 f2 f3 f4 false) rfl rfl) rfl ?_
 rintro _ w1 ⟨g1, rfl, B1, hg1, ex⟩
 replace E := E.ext ex
 skip
 have hz := E.size
 refine wl_ef (ef_alloc (Z := pc zf zf zf zf false) (by kernel_rfl)) rfl ?_
 rintro _ w2 ⟨g2, rfl, B2, hg2, ex⟩
 replace E := E.ext ex
 replace B1 := B1.ext ex
 skip
 refine wl_nil ?_
 refine wq_then_norm (hK1 ?_)
 refine wc_seq ?_; intro K2 hK2
 refine wc_seq ?_; intro K3 hK3
 refine wc_region ?_
 refine wl_y (y_fieldAddr (o := 20) (s := 1) (off := 0) (o' := 20) rfl Tryz.underlying137 rfl (by kernel_rfl) rfl rfl) rfl ?_
 refine wl_y (y_load1 rfl Tryz.underlying4 rfl (B1.get (pc_4 _ _ _ _ _))) rfl ?_
 refine wl_y (y_not rfl) rfl ?_
 refine wl_nil ?_
 refine wq_then_norm (hK3 ?_)
 refine wc_true rfl rfl ?_
 refine wc_seq ?_; intro K4 hK4
 refine wc_region ?_
 refine wl_call Tryz.func157 rfl rfl rfl (pnothing_any _) rfl ?_
 rintro e w3 ⟨c3, rfl, P3, ex⟩
 refine ⟨_, rfl, ?_⟩
 replace E := E.ext ex
 replace B1 := B1.ext ex
 replace B2 := B2.ext ex
 skip
 refine wl_ef (ef_storeW rfl rfl (by rw [P3.size]; kernel_rfl) B2 (by rw [pc_size, P3.size]) P3.one) rfl ?_
 rintro _ w4 ⟨rfl, B4, cg⟩
 replace E := E.chg cg (by omega)
 refine wl_nil ?_
 refine wq_then_norm (hK4 ?_)
 refine wc_ret ?_
 refine wq_then_ret ?_
 refine hret rfl B4 P3.size ?_
 exact ⟨c3, rfl, P3, E⟩
theorem preal_any {cs : Array Value} {P : Fp.F × Fp.F} (h : PP cs P) (w : World) : Calls Tryz.prog 156 #[.agg cs] w fun e w' => ∃ ds, e = .returned (.agg ds) ∧ PT ds P ∧ Ext w w' := by
 rcases h with ⟨f1, f2, f3, f4, q, rfl, h⟩ | ⟨f1, f2, f3, f4, rfl, rfl⟩
 ·exact (preal_t f1 f2 f3 f4 w).mono fun e w' ⟨h1, h2⟩ => ⟨_, h1, ⟨f1, f2, f3, f4, q, rfl, h⟩, h2⟩
 ·exact preal_f f1 f2 f3 f4 w
theorem pflat_any {f : Nat → Nat} {y : Fp.F} (Yy : FE (fe f) y) (w : World) :
  Calls Tryz.prog 154 #[.agg (fe f)] w fun e w' => ∃ g, e = .returned (.tuple #[.agg (fe g), .bool (decide (Fp.Sqr (Ed.sq y)))]) ∧ FE (fe g) (if Fp.Sqr (Ed.sq y) then Fp.root (Ed.sq y) else 0) ∧ Ext w w' := by
 have E := Ext.refl w
 refine vc_enterct (s := 5) 20 Tryz.func154 rfl rfl rfl Tryz.underlying135 rfl (by kernel_rfl) rfl ?_
 intro Q hret
 refine wc_seq ?_; intro K1 hK1
 refine wc_region ?_
 refine wl_ef (ef_box (cs := fe f) rfl rfl) rfl ?_
 rintro _ w1 ⟨g1, rfl, B1, hg1, ex⟩
 replace E := E.ext ex
 skip
 have hz := E.size
 refine wl_ef (ef_alloc (Z := fe zf) (by kernel_rfl)) rfl ?_
 rintro _ w2 ⟨g2, rfl, B2, hg2, ex⟩
 replace E := E.ext ex
 replace B1 := B1.ext ex
 have hl2 := B2.lt
 refine wl_y (y_assign rfl) rfl ?_
 refine wl_nil ?_
 refine wq_then_norm (hK1 ?_)
 refine wc_seq ?_; intro K2 hK2
 refine wc_region ?_
 refine wl_y (y_lE rfl B1) rfl ?_
 refine wl_call Tryz.func222 rfl rfl rfl (Fsquare_any Yy _) rfl ?_
 rintro e w3 ⟨c3, rfl, F3, ex⟩
 refine ⟨_, rfl, ?_⟩
 replace E := E.ext ex
 replace B1 := B1.ext ex
 replace B2 := B2.ext ex
 obtain ⟨f3, rfl, F3⟩ := F3.fe
 have hz3 := E.size; have hl3 := B2.lt
 refine wl_ef (ef_alloc (Z := fe zf) (by kernel_rfl)) rfl ?_
 rintro _ w4 ⟨g4, rfl, B4, hg4, ex⟩
 replace E := E.ext ex
 replace B1 := B1.ext ex
 replace B2 := B2.ext ex
 skip
 refine wl_ef (ef_storeW rfl rfl (by rw [fe_size]; kernel_rfl) B4 (by rw [fe_size, fe_size]) (fe_one _)) rfl ?_
 rintro _ w5 ⟨rfl, D4, cg⟩
 replace E := E.chg cg (by omega); replace B2 := B2.chg cg (by omega)
 refine wl_nil ?_
 refine wq_then_norm (hK2 ?_)
 refine wc_seq ?_; intro K3 hK3
 refine wc_draw (by kernel_rfl) 15 rfl ?_; intro wd2 ex hd2
 replace E := E.ext ex
 replace B2 := B2.ext ex
 replace D4 := D4.ext ex
 refine wm_y 0 rfl (by kernel_rfl) (y_lE rfl D4) rfl ?_
 refine wm_y 4 rfl (by kernel_rfl) (y_lE rfl D4) rfl ?_
 refine wm_one 1 (by kernel_rfl) ?_; refine om_call rfl Tryz.func151 rfl rfl rfl (Fnum_any 1 _ (by omega)) rfl ?_
 rintro e w6 ⟨c6, rfl, F6, ex⟩
 refine ⟨_, rfl, .inr ex, ?_⟩
 replace E := E.ext ex
 replace B2 := B2.ext ex
 replace D4 := D4.ext ex
 skip
 refine wm_one 2 (by kernel_rfl) ?_; refine om_call rfl Tryz.func223 rfl rfl rfl (Fsub_any F3 F6 _) rfl ?_
 rintro e w7 ⟨c7, rfl, F7, ex⟩
 refine ⟨_, rfl, .inr ex, ?_⟩
 replace E := E.ext ex
 replace B2 := B2.ext ex
 replace D4 := D4.ext ex
 skip
 refine wm_one 3 (by kernel_rfl) ?_; refine om_call rfl Tryz.func158 rfl rfl rfl (pd_any _) rfl ?_
 rintro e w8 ⟨f8, rfl, F8, ex⟩
 refine ⟨_, rfl, .inr ex, ?_⟩
 replace E := E.ext ex
 replace B2 := B2.ext ex
 replace D4 := D4.ext ex
 skip
 refine wm_one 5 (by kernel_rfl) ?_; refine om_call rfl Tryz.func152 rfl rfl rfl (Fmul_any F8 F3 _) rfl ?_
 rintro e w9 ⟨c9, rfl, F9, ex⟩
 refine ⟨_, rfl, .inr ex, ?_⟩
 replace E := E.ext ex
 replace B2 := B2.ext ex
 replace D4 := D4.ext ex
 skip
 refine wm_one 6 (by kernel_rfl) ?_; refine om_call rfl Tryz.func151 rfl rfl rfl (Fnum_any 1 _ (by omega)) rfl ?_
 rintro e w10 ⟨c10, rfl, F10, ex⟩
 refine ⟨_, rfl, .inr ex, ?_⟩
 replace E := E.ext ex
 replace B2 := B2.ext ex
 replace D4 := D4.ext ex
 skip
 refine wm_one 7 (by kernel_rfl) ?_; refine om_call rfl Tryz.func159 rfl rfl rfl (Fadd_any F9 F10 _) rfl ?_
 rintro e w11 ⟨c11, rfl, F11, ex⟩
 refine ⟨_, rfl, .inr ex, ?_⟩
 replace E := E.ext ex
 replace B2 := B2.ext ex
 replace D4 := D4.ext ex
 skip
 refine wm_one 8 (by kernel_rfl) ?_; refine om_call rfl Tryz.func153 rfl rfl rfl (Finv_any F11 _) rfl ?_
 rintro e w12 ⟨c12, rfl, F12, ex⟩
 refine ⟨_, rfl, .inr ex, ?_⟩
 replace E := E.ext ex
 replace B2 := B2.ext ex
 replace D4 := D4.ext ex
 skip
 refine wm_one 9 (by kernel_rfl) ?_; refine om_call rfl Tryz.func152 rfl rfl rfl (Fmul_any F7 F12 _) rfl ?_
 rintro e w13 ⟨c13, rfl, F13, ex⟩
 refine ⟨_, rfl, .inr ex, ?_⟩
 replace E := E.ext ex
 replace B2 := B2.ext ex
 replace D4 := D4.ext ex
 skip
 refine wm_one 10 (by kernel_rfl) ?_; refine om_call rfl Tryz.func224 rfl rfl rfl (Froot_any F13 _) rfl ?_
 rintro e w14 ⟨c14, rfl, F14, ex⟩
 refine ⟨_, rfl, .inr ex, ?_⟩
 replace E := E.ext ex
 replace B2 := B2.ext ex
 replace D4 := D4.ext ex
 obtain ⟨f14, rfl, F14⟩ := F14.fe
 refine wm_z 11 rfl (by kernel_rfl) (fun _ => y_extract rfl rfl) rfl ?_
 refine wm_z 12 rfl (by kernel_rfl) (fun _ => y_extract rfl rfl) rfl ?_
 refine wm_one 13 (by kernel_rfl) ?_; refine om_ef rfl (ef_storeW rfl rfl (by rw [fe_size]; kernel_rfl) B2 (by rw [fe_size, fe_size]) (fe_one _)) rfl ?_
 rintro _ w15 ⟨rfl, B15, cg⟩
 refine ⟨.inl rfl, ?_⟩
 replace E := E.chg cg (by omega)
 refine wm_y 14 rfl (by kernel_rfl) (y_assign rfl) rfl ?_
 refine wm_done (by kernel_rfl) ?_
 refine wq_nop ?_
 refine wq_then_norm (hK3 ?_)
 refine wc_ret ?_
 refine hret rfl rfl B15 (fe_size _) ?_
 exact ⟨f14, rfl, F14, E⟩
end
end
section
open Go.RowKit
section
attribute [local irreducible] Y Ef WL WC WK WQ WM OpM WN WF OpN
theorem PP.pc {cs : Array Value} {P : Fp.F × Fp.F} (h : PP cs P) : ∃ f1 f2 f3 f4 b, cs = Go.Proofs.YtjllhimhiekchaaGreat.pc f1 f2 f3 f4 b ∧ PP (Go.Proofs.YtjllhimhiekchaaGreat.pc f1 f2 f3 f4 b) P := by
 have h0 := h
 rcases h with ⟨f1, f2, f3, f4, q, rfl, h⟩ | ⟨f1, f2, f3, f4, rfl, h⟩
 ·exact ⟨f1, f2, f3, f4, true, rfl, h0⟩
 ·exact ⟨f1, f2, f3, f4, false, rfl, h0⟩
theorem flat_base : (if Fp.Sqr (Ed.sq (Fp.of 4 * Fp.inv (Fp.of 5))) then Fp.root (Ed.sq (Fp.of 4 * Fp.inv (Fp.of 5))) else 0) = Ed.B.1 ∧ Fp.of 4 * Fp.inv (Fp.of 5) = Ed.B.2 := by
 have h1 : Fp.of 4 * Fp.inv (Fp.of 5) = Ed.B.2 := (Ed.eq_div (by decide +kernel) (by decide +kernel)).symm
 refine ⟨?_, h1⟩
 rw [h1]
 have h2 : Ed.B.1 * Ed.B.1 = Ed.sq Ed.B.2 := Ed.on_iff.1 Ed.on_B
 have h3 := Fp.sqr_of h2
 rw [if_pos h3]
 have h4 := Fp.root_sq h3
 have h5 := Fp.root_even (Ed.sq Ed.B.2)
 rcases Fp.roots_two (h4.trans h2.symm) with e | e
 ·exact e
 ·exfalso
  rw [e] at h5
  have : (-Ed.B.1).val % 2 = 1 := by decide +kernel
  omega
theorem pbase_any (w : World) : Calls Tryz.prog 75 #[] w fun e w' => ∃ cs, e = .returned (.agg cs) ∧ PT cs Ed.B ∧ Ext w w' := by
 have E := Ext.refl w
 refine vc_enterc1 (s := 21) 16 Tryz.func75 rfl rfl rfl Tryz.underlying137 rfl (by kernel_rfl) rfl ?_
 intro Q hret
 refine wc_seq ?_; intro K1 hK1
 refine wc_region ?_
 refine wl_ef (ef_alloc (Z := pc zf zf zf zf false) (by kernel_rfl)) rfl ?_
 rintro _ w1 ⟨g0, rfl, B0, hg0, ex⟩
 replace E := E.ext ex
 skip
 refine wl_nil ?_
 refine wq_then_norm (hK1 ?_)
 refine wc_seq ?_; intro K2 hK2
 refine wc_region ?_
 refine wl_call Tryz.func151 rfl rfl rfl (Fnum_any 4 _ (by omega)) rfl ?_
 rintro e w2 ⟨c2, rfl, F2, ex⟩
 refine ⟨_, rfl, ?_⟩
 replace E := E.ext ex
 replace B0 := B0.ext ex
 skip
 refine wl_call Tryz.func151 rfl rfl rfl (Fnum_any 5 _ (by omega)) rfl ?_
 rintro e w3 ⟨c3, rfl, F3, ex⟩
 refine ⟨_, rfl, ?_⟩
 replace E := E.ext ex
 replace B0 := B0.ext ex
 skip
 refine wl_call Tryz.func153 rfl rfl rfl (Finv_any F3 _) rfl ?_
 rintro e w4 ⟨c4, rfl, F4, ex⟩
 refine ⟨_, rfl, ?_⟩
 replace E := E.ext ex
 replace B0 := B0.ext ex
 skip
 refine wl_call Tryz.func152 rfl rfl rfl (Fmul_any F2 F4 _) rfl ?_
 rintro e w5 ⟨c5, rfl, F5, ex⟩
 refine ⟨_, rfl, ?_⟩
 replace E := E.ext ex
 replace B0 := B0.ext ex
 obtain ⟨f5, rfl, F5⟩ := F5.fe
 have hz := E.size; have hl0 := B0.lt
 refine wl_ef (ef_alloc (Z := fe zf) (by kernel_rfl)) rfl ?_
 rintro _ w6 ⟨g6, rfl, B6, hg6, ex⟩
 replace E := E.ext ex
 replace B0 := B0.ext ex
 skip
 refine wl_ef (ef_storeW rfl rfl (by rw [fe_size]; kernel_rfl) B6 (by rw [fe_size, fe_size]) (fe_one _)) rfl ?_
 rintro _ w7 ⟨rfl, D6, cg⟩
 replace E := E.chg cg (by omega); replace B0 := B0.chg cg (by omega)
 refine wl_nil ?_
 refine wq_then_norm (hK2 ?_)
 refine wc_seq ?_; intro K3 hK3
 refine wc_region ?_
 refine wl_y (y_lE rfl D6) rfl ?_
 refine wl_call Tryz.func154 rfl rfl rfl (pflat_any F5 _) rfl ?_
 rintro e w8 ⟨f8, rfl, F8, ex⟩
 refine ⟨_, rfl, ?_⟩
 replace E := E.ext ex
 replace B0 := B0.ext ex
 replace D6 := D6.ext ex
 skip
 refine wl_y (y_move rfl) rfl ?_
 refine wl_y (y_extract rfl rfl) rfl ?_
 refine wl_y (y_extract rfl rfl) rfl ?_
 have hz2 := E.size; have hl0 := B0.lt; have hl6 := D6.lt
 refine wl_ef (ef_alloc (Z := fe zf) (by kernel_rfl)) rfl ?_
 rintro _ w9 ⟨g9, rfl, B9, hg9, ex⟩
 replace E := E.ext ex
 replace B0 := B0.ext ex
 replace D6 := D6.ext ex
 skip
 refine wl_ef (ef_storeW rfl rfl (by rw [fe_size]; kernel_rfl) B9 (by rw [fe_size, fe_size]) (fe_one _)) rfl ?_
 rintro _ w10 ⟨rfl, D9, cg⟩
 replace E := E.chg cg (by omega); replace B0 := B0.chg cg (by omega); replace D6 := D6.chg cg (by omega)
 refine wl_y (y_assign rfl) rfl ?_
 refine wl_nil ?_
 refine wq_then_norm (hK3 ?_)
 refine wc_seq ?_; intro K4 hK4
 refine wc_region ?_
 refine wl_y (y_lE rfl D9) rfl ?_
 refine wl_y (y_lE rfl D6) rfl ?_
 refine wl_call Tryz.func155 rfl rfl rfl (pof_any F8 F5 _) rfl ?_
 rintro e w11 ⟨c11, rfl, P11, ex⟩
 refine ⟨_, rfl, ?_⟩
 replace E := E.ext ex
 replace B0 := B0.ext ex
 replace D6 := D6.ext ex
 replace D9 := D9.ext ex
 skip
 refine wl_ef (ef_storeW rfl rfl (by rw [P11.size]; kernel_rfl) B0 (by rw [pc_size, P11.size]) P11.one) rfl ?_
 rintro _ w12 ⟨rfl, D0, cg⟩
 replace E := E.chg cg (by omega)
 refine wl_nil ?_
 refine wq_then_norm (hK4 ?_)
 refine wc_ret ?_
 refine hret rfl D0 P11.size ?_
 exact ⟨c11, rfl, P11.congr (by rw [flat_base.1, flat_base.2]), E⟩
theorem PT.get {cs : Array Value} {P : Fp.F × Fp.F} (h : PT cs P) : ∃ f1 f2 f3 f4, cs = pc f1 f2 f3 f4 true ∧ ∃ q : Ed.Q4, FE (fe f1) q.x ∧ FE (fe f2) q.y ∧ FE (fe f3) q.z ∧ FE (fe f4) q.t ∧ Ed.Rep q P := by
 obtain ⟨f1, f2, f3, f4, q, rfl, h⟩ := h; exact ⟨f1, f2, f3, f4, rfl, q, h⟩
theorem Padd_any {cs ds : Array Value} {P Q : Fp.F × Fp.F} (hP : PP cs P) (hQ : PP ds Q) (oP : Ed.On P) (oQ : Ed.On Q) (w : World) :
  Calls Tryz.prog 144 #[.agg cs, .agg ds] w fun e w' => ∃ es, e = .returned (.agg es) ∧ PT es (Ed.add P Q) ∧ Ext w w' := by
 obtain ⟨p1, p2, p3, p4, b, rfl, hP⟩ := hP.pc
 obtain ⟨q1, q2, q3, q4, c, rfl, hQ⟩ := hQ.pc
 have E := Ext.refl w
 refine vc_enterc1 (s := 21) 13 Tryz.func144 rfl rfl rfl Tryz.underlying137 rfl (by kernel_rfl) rfl ?_
 intro Q hret
 refine wc_seq ?_; intro K1 hK1
 refine wc_region ?_
 refine wl_ef (ef_box (cs := pc p1 p2 p3 p4 b) rfl rfl) rfl ?_
 rintro _ w1 ⟨g2, rfl, B2, hg2, ex⟩
 replace E := E.ext ex
 skip
 refine wl_ef (ef_box (cs := pc q1 q2 q3 q4 c) rfl rfl) rfl ?_
 rintro _ w2 ⟨g3, rfl, B3, hg3, ex⟩
 replace E := E.ext ex
 replace B2 := B2.ext ex
 skip
 have hz := E.size
 refine wl_ef (ef_alloc (Z := pc zf zf zf zf false) (by kernel_rfl)) rfl ?_
 rintro _ w3 ⟨g4, rfl, B4, hg4, ex⟩
 replace E := E.ext ex
 replace B2 := B2.ext ex
 replace B3 := B3.ext ex
 have hw4 : w.heap.size ≤ g4 := by omega
 refine wl_nil ?_
 refine wq_then_norm (hK1 ?_)
 refine wc_seq ?_; intro K2 hK2
 refine wc_draw (by kernel_rfl) 9 rfl ?_; intro wd1 ex hd1
 replace E := E.ext ex
 replace B2 := B2.ext ex
 replace B3 := B3.ext ex
 replace B4 := B4.ext ex
 refine wm_y 0 rfl (by kernel_rfl) (y_q rfl B2) rfl ?_
 refine wm_y 2 rfl (by kernel_rfl) (y_q rfl B3) rfl ?_
 refine wm_one 1 (by kernel_rfl) ?_; refine om_call rfl Tryz.func156 rfl rfl rfl (preal_any hP _) rfl ?_
 rintro e w5 ⟨c5, rfl, P5, ex⟩
 refine ⟨_, rfl, .inr ex, ?_⟩
 replace E := E.ext ex
 replace B2 := B2.ext ex
 replace B3 := B3.ext ex
 replace B4 := B4.ext ex
 obtain ⟨r1, r2, r3, r4, rfl, q5, R1, R2, R3, R4, R5⟩ := P5.get
 refine wm_one 3 (by kernel_rfl) ?_; refine om_call rfl Tryz.func156 rfl rfl rfl (preal_any hQ _) rfl ?_
 rintro e w6 ⟨c6, rfl, P6, ex⟩
 refine ⟨_, rfl, .inr ex, ?_⟩
 replace E := E.ext ex
 replace B2 := B2.ext ex
 replace B3 := B3.ext ex
 replace B4 := B4.ext ex
 obtain ⟨s1, s2, s3, s4, rfl, q6, S1, S2, S3, S4, S5⟩ := P6.get
 refine wm_one 4 (by kernel_rfl) ?_; refine om_call rfl Tryz.func158 rfl rfl rfl (pd_any _) rfl ?_
 rintro e w7 ⟨f7, rfl, F7, ex⟩
 refine ⟨_, rfl, .inr ex, ?_⟩
 replace E := E.ext ex
 replace B2 := B2.ext ex
 replace B3 := B3.ext ex
 replace B4 := B4.ext ex
 skip
 refine wm_one 5 (by kernel_rfl) ?_; refine om_call rfl Tryz.func158 rfl rfl rfl (pd_any _) rfl ?_
 rintro e w8 ⟨f8, rfl, F8, ex⟩
 refine ⟨_, rfl, .inr ex, ?_⟩
 replace E := E.ext ex
 replace B2 := B2.ext ex
 replace B3 := B3.ext ex
 replace B4 := B4.ext ex
 skip
 refine wm_one 6 (by kernel_rfl) ?_; refine om_call rfl Tryz.func159 rfl rfl rfl (Fadd_any F7 F8 _) rfl ?_
 rintro e w9 ⟨c9, rfl, F9, ex⟩
 refine ⟨_, rfl, .inr ex, ?_⟩
 replace E := E.ext ex
 replace B2 := B2.ext ex
 replace B3 := B3.ext ex
 replace B4 := B4.ext ex
 obtain ⟨f9, rfl, F9⟩ := F9.fe
 refine wm_one 7 (by kernel_rfl) ?_; refine om_call rfl Tryz.func160 rfl rfl rfl (padd_any R1 R2 R3 R4 S1 S2 S3 S4 F9 R5 S5 oP oQ _ _ _) rfl ?_
 rintro e w10 ⟨c10, rfl, P10, ex⟩
 refine ⟨_, rfl, .inr ex, ?_⟩
 replace E := E.ext ex
 replace B2 := B2.ext ex
 replace B3 := B3.ext ex
 replace B4 := B4.ext ex
 skip
 refine wm_one 8 (by kernel_rfl) ?_; refine om_ef rfl (ef_storeW rfl rfl (by rw [P10.size]; kernel_rfl) B4 (by rw [pc_size, P10.size]) P10.one) rfl ?_
 rintro _ w11 ⟨rfl, D4, cg⟩
 refine ⟨.inl rfl, ?_⟩
 have E4 := E.chg cg hw4
 refine wm_done (by kernel_rfl) ?_
 refine wq_nop ?_
 refine wq_then_norm (hK2 ?_)
 refine wc_ret ?_
 refine hret rfl D4 P10.size ?_
 exact ⟨c10, rfl, P10, E4⟩
end
section
attribute [local irreducible] Y Ef WL WC WK WQ WM OpM WN WF OpN
theorem Psame_any {cs ds : Array Value} {P Q : Fp.F × Fp.F} (hP : PP cs P) (hQ : PP ds Q) (w : World) :
  Calls Tryz.prog 143 #[.agg cs, .agg ds] w fun e w' => e = .returned (.bool (decide (P = Q))) ∧ Ext w w' := by
 obtain ⟨p1, p2, p3, p4, b, rfl, hP⟩ := hP.pc
 obtain ⟨q1, q2, q3, q4, c, rfl, hQ⟩ := hQ.pc
 have E := Ext.refl w
 refine vc_enter1 33 Tryz.func143 rfl rfl rfl rfl ?_
 intro Q hret
 refine wc_seq ?_; intro K1 hK1
 refine wc_region ?_
 refine wl_ef (ef_box (cs := pc p1 p2 p3 p4 b) rfl rfl) rfl ?_
 rintro _ w1 ⟨g2, rfl, B2, hg2, ex⟩
 replace E := E.ext ex
 have hl2 := B2.lt; have hz := E.size
 refine wl_ef (ef_box (cs := pc q1 q2 q3 q4 c) rfl rfl) rfl ?_
 rintro _ w2 ⟨g3, rfl, B3, hg3, ex⟩
 replace E := E.ext ex
 replace B2 := B2.ext ex
 have hg23 : g2 ≠ g3 := (by omega); have hw2 : w.heap.size ≤ g2 := (by omega); have hw3 : w.heap.size ≤ g3 := (by omega)
 refine wl_y (y_assign rfl) rfl ?_
 refine wl_nil ?_
 refine wq_then_norm (hK1 ?_)
 refine wc_seq ?_; intro K2 hK2
 refine wc_draw (by kernel_rfl) 6 rfl ?_; intro wd1 ex hd1
 replace E := E.ext ex
 replace B2 := B2.ext ex
 replace B3 := B3.ext ex
 refine wm_y 0 rfl (by kernel_rfl) (y_q rfl B2) rfl ?_
 refine wm_y 2 rfl (by kernel_rfl) (y_q rfl B3) rfl ?_
 refine wm_one 1 (by kernel_rfl) ?_; refine om_call rfl Tryz.func156 rfl rfl rfl (preal_any hP _) rfl ?_
 rintro e w5 ⟨c5, rfl, P5, ex⟩
 refine ⟨_, rfl, .inr ex, ?_⟩
 replace E := E.ext ex
 replace B2 := B2.ext ex
 replace B3 := B3.ext ex
 obtain ⟨r1, r2, r3, r4, rfl, q5, R1, R2, R3, R4, R5⟩ := P5.get
 refine wm_one 3 (by kernel_rfl) ?_; refine om_call rfl Tryz.func156 rfl rfl rfl (preal_any hQ _) rfl ?_
 rintro e w6 ⟨c6, rfl, P6, ex⟩
 refine ⟨_, rfl, .inr ex, ?_⟩
 replace E := E.ext ex
 replace B2 := B2.ext ex
 replace B3 := B3.ext ex
 obtain ⟨s1, s2, s3, s4, rfl, q6, S1, S2, S3, S4, S5⟩ := P6.get
 refine wm_one 4 (by kernel_rfl) ?_; refine om_ef rfl (ef_storeW rfl rfl (by rw [pc_size]; kernel_rfl) B2 (by rw [pc_size, pc_size]) (pc_one _ _ _ _ _)) rfl ?_
 rintro _ w7 ⟨rfl, D2, cg⟩
 refine ⟨.inl rfl, ?_⟩
 replace E := E.chg cg hw2; replace B3 := B3.chg cg (by omega); replace B2 := D2
 refine wm_one 5 (by kernel_rfl) ?_; refine om_ef rfl (ef_storeW rfl rfl (by rw [pc_size]; kernel_rfl) B3 (by rw [pc_size, pc_size]) (pc_one _ _ _ _ _)) rfl ?_
 rintro _ w8 ⟨rfl, D3, cg⟩
 refine ⟨.inl rfl, ?_⟩
 replace E := E.chg cg hw3; replace B2 := B2.chg cg (by omega); replace B3 := D3
 refine wm_done (by kernel_rfl) ?_
 refine wq_nop ?_
 refine wq_then_norm (hK2 ?_)
 refine wc_seq ?_; intro K3 hK3
 refine wc_draw (by kernel_rfl) 25 rfl ?_; intro wd2 ex hd2
 replace E := E.ext ex
 replace B2 := B2.ext ex
 replace B3 := B3.ext ex
 refine wm_y 0 rfl (by kernel_rfl) (y_fieldAddr (o := 0) (s := 5) (off := 0) (o' := 0) rfl Tryz.underlying137 rfl (by kernel_rfl) rfl rfl) rfl ?_
 refine wm_y 1 rfl (by kernel_rfl) (y_q0 rfl B2) rfl ?_
 refine wm_y 2 rfl (by kernel_rfl) (y_fieldAddr (o := 10) (s := 5) (off := 0) (o' := 10) rfl Tryz.underlying137 rfl (by kernel_rfl) rfl rfl) rfl ?_
 refine wm_y 3 rfl (by kernel_rfl) (y_q2 rfl B3) rfl ?_
 refine wm_y 5 rfl (by kernel_rfl) (y_fieldAddr (o := 0) (s := 5) (off := 0) (o' := 0) rfl Tryz.underlying137 rfl (by kernel_rfl) rfl rfl) rfl ?_
 refine wm_y 6 rfl (by kernel_rfl) (y_q0 rfl B3) rfl ?_
 refine wm_y 7 rfl (by kernel_rfl) (y_fieldAddr (o := 10) (s := 5) (off := 0) (o' := 10) rfl Tryz.underlying137 rfl (by kernel_rfl) rfl rfl) rfl ?_
 refine wm_y 8 rfl (by kernel_rfl) (y_q2 rfl B2) rfl ?_
 refine wm_one 4 (by kernel_rfl) ?_; refine om_call rfl Tryz.func152 rfl rfl rfl (Fmul_any R1 S3 _) rfl ?_
 rintro e w9 ⟨c9, rfl, F9, ex⟩
 refine ⟨_, rfl, .inr ex, ?_⟩
 replace E := E.ext ex
 replace B2 := B2.ext ex
 replace B3 := B3.ext ex
 skip
 refine wm_one 9 (by kernel_rfl) ?_; refine om_call rfl Tryz.func152 rfl rfl rfl (Fmul_any S1 R3 _) rfl ?_
 rintro e w10 ⟨c10, rfl, F10, ex⟩
 refine ⟨_, rfl, .inr ex, ?_⟩
 replace E := E.ext ex
 replace B2 := B2.ext ex
 replace B3 := B3.ext ex
 skip
 refine wm_one 10 (by kernel_rfl) ?_; refine om_call rfl Tryz.func211 rfl rfl rfl (Fsame_any F9 F10 _) rfl ?_
 rintro e w11 ⟨rfl, ex⟩
 refine ⟨_, rfl, .inr ex, ?_⟩
 replace E := E.ext ex
 replace B2 := B2.ext ex
 replace B3 := B3.ext ex
 have hs := Ed.rep_same R5 S5
 refine wm_yask 11 rfl (by kernel_rfl) (y_move rfl) rfl (fun h1 => ?_) (fun h1 => ?_)
 ·skip
  refine wm_gy 12 rfl (by kernel_rfl) 20 rfl rfl (y_fieldAddr (o := 5) (s := 5) (off := 0) (o' := 5) rfl Tryz.underlying137 rfl (by kernel_rfl) rfl rfl) rfl ?_
  refine wm_gy 13 rfl (by kernel_rfl) 20 rfl rfl (y_q1 rfl B2) rfl ?_
  refine wm_gy 14 rfl (by kernel_rfl) 20 rfl rfl (y_fieldAddr (o := 10) (s := 5) (off := 0) (o' := 10) rfl Tryz.underlying137 rfl (by kernel_rfl) rfl rfl) rfl ?_
  refine wm_gy 15 rfl (by kernel_rfl) 20 rfl rfl (y_q2 rfl B3) rfl ?_
  refine wm_gy 17 rfl (by kernel_rfl) 20 rfl rfl (y_fieldAddr (o := 5) (s := 5) (off := 0) (o' := 5) rfl Tryz.underlying137 rfl (by kernel_rfl) rfl rfl) rfl ?_
  refine wm_gy 18 rfl (by kernel_rfl) 20 rfl rfl (y_q1 rfl B3) rfl ?_
  refine wm_gy 19 rfl (by kernel_rfl) 20 rfl rfl (y_fieldAddr (o := 10) (s := 5) (off := 0) (o' := 10) rfl Tryz.underlying137 rfl (by kernel_rfl) rfl rfl) rfl ?_
  refine wm_gy 20 rfl (by kernel_rfl) 20 rfl rfl (y_q2 rfl B2) rfl ?_
  refine wm_one 16 (by kernel_rfl) ?_; refine om_gcall rfl 20 rfl rfl Tryz.func152 rfl rfl rfl (Fmul_any R2 S3 _) rfl ?_
  rintro e w12 ⟨c12, rfl, F12, ex⟩
  refine ⟨_, rfl, .inr ex, ?_⟩
  replace E := E.ext ex
  replace B2 := B2.ext ex
  replace B3 := B3.ext ex
  skip
  refine wm_one 21 (by kernel_rfl) ?_; refine om_gcall rfl 20 rfl rfl Tryz.func152 rfl rfl rfl (Fmul_any S2 R3 _) rfl ?_
  rintro e w13 ⟨c13, rfl, F13, ex⟩
  refine ⟨_, rfl, .inr ex, ?_⟩
  replace E := E.ext ex
  replace B2 := B2.ext ex
  replace B3 := B3.ext ex
  skip
  refine wm_one 22 (by kernel_rfl) ?_; refine om_gcall rfl 20 rfl rfl Tryz.func211 rfl rfl rfl (Fsame_any F12 F13 _) rfl ?_
  rintro e w14 ⟨rfl, ex⟩
  refine ⟨_, rfl, .inr ex, ?_⟩
  replace E := E.ext ex
  replace B2 := B2.ext ex
  replace B3 := B3.ext ex
  skip
  refine wm_y 23 rfl (by kernel_rfl) (y_pickt rfl rfl) rfl ?_
  refine wm_y 24 rfl (by kernel_rfl) (y_assign rfl) rfl ?_
  refine wm_done (by kernel_rfl) ?_
  refine wq_nop ?_
  refine wq_then_norm (hK3 ?_)
  refine wc_ret ?_
  refine hret rfl ?_
  exact ⟨by congr 3; exact propext ⟨fun h2 => hs.1 ⟨h1, h2⟩, fun h2 => (hs.2 h2).2⟩, E⟩
 ·skip
  refine wm_gno 12 rfl (by kernel_rfl) 20 rfl rfl rfl rfl ?_
  refine wm_gno 13 rfl (by kernel_rfl) 20 rfl rfl rfl rfl ?_
  refine wm_gno 14 rfl (by kernel_rfl) 20 rfl rfl rfl rfl ?_
  refine wm_gno 15 rfl (by kernel_rfl) 20 rfl rfl rfl rfl ?_
  refine wm_gno 16 rfl (by kernel_rfl) 20 rfl rfl rfl rfl ?_
  refine wm_gno 17 rfl (by kernel_rfl) 20 rfl rfl rfl rfl ?_
  refine wm_gno 18 rfl (by kernel_rfl) 20 rfl rfl rfl rfl ?_
  refine wm_gno 19 rfl (by kernel_rfl) 20 rfl rfl rfl rfl ?_
  refine wm_gno 20 rfl (by kernel_rfl) 20 rfl rfl rfl rfl ?_
  refine wm_gno 21 rfl (by kernel_rfl) 20 rfl rfl rfl rfl ?_
  refine wm_gno 22 rfl (by kernel_rfl) 20 rfl rfl rfl rfl ?_
  refine wm_y 23 rfl (by kernel_rfl) (y_pickf rfl rfl) rfl ?_
  refine wm_y 24 rfl (by kernel_rfl) (y_assign rfl) rfl ?_
  refine wm_done (by kernel_rfl) ?_
  refine wq_nop ?_
  refine wq_then_norm (hK3 ?_)
  refine wc_ret ?_
  refine hret rfl ?_
  exact ⟨by congr 2; rw [decide_eq_false fun h2 => h1 (hs.2 h2).1], E⟩
end
section
attribute [local irreducible] Y Ef WL WC WK WQ WM OpM WN WF OpN
namespace Ed
open Fp
theorem num_set31 {l : List UInt8} (h : l.length = 32) (x : UInt8) : num (l.set 31 x) = num l % 256 ^ 31 + 256 ^ 31 * x.toNat := by
 have e : l.set 31 x = l.take 31 ++ [x] := by
  rw [List.set_eq_take_append_cons_drop, if_pos (by omega), List.drop_of_length_le (by omega)]
 have hl : (l.take 31).length = 31 := by rw [List.length_take]; omega
 rw [e, num_append, num_take _ _ (by omega), hl]
 simp only [num]
 omega
theorem top31 : top = 256 ^ 31 * 128 := by decide +kernel
theorem last_lt {x : Nat} (h : x < top) : ((le 32 x).getD 31 0).toNat < 128 ∧ x / 256 ^ 31 = ((le 32 x).getD 31 0).toNat := by
 have hl : (le 32 x).length = 32 := le_length 32 x
 have hn : num (le 32 x) = x := le_num 32 x (by rw [← top2]; omega)
 have h1 := num_drop (le 32 x) 31 (by omega)
 have e : (le 32 x).drop 31 = [(le 32 x).getD 31 0] := by
  rw [List.drop_eq_getElem_cons (by omega), List.drop_of_length_le (by omega), List.getD_eq_getElem?_getD, List.getElem?_eq_getElem (by omega)]; rfl
 rw [e, hn] at h1
 have h2 : ((le 32 x).getD 31 0).toNat = x / 256 ^ 31 := by rw [← h1]; simp [num]
 exact ⟨by rw [h2]; exact Nat.div_lt_of_lt_mul (by rw [← top31]; exact h), h2.symm⟩
theorem enc_even {P : F × F} (h : ¬ P.1.val % 2 = 1) : le 32 P.2.val = enc P := by
 unfold enc
 rw [show P.1.val % 2 = 0 by omega]; rfl
theorem enc_odd {P : F × F} (h : P.1.val % 2 = 1) {x : Nat} (hx : x = ((le 32 P.2.val).getD 31 0).toNat) : (le 32 P.2.val).set 31 (UInt8.ofNat (x + 128)) = enc P := by
 have hy := P.2.isLt
 have hpt := p_top
 obtain ⟨h1, h2⟩ := last_lt (x := P.2.val) (by omega)
 have hl : (le 32 P.2.val).length = 32 := le_length 32 _
 have hn : num (le 32 P.2.val) = P.2.val := le_num 32 _ (by rw [← top2]; omega)
 refine num_inj (by rw [List.length_set, hl, enc_length]) ?_
 rw [num_set31 hl, num_enc, hn, h, UInt8.toNat_ofNat', top31, Nat.mod_eq_of_lt (show x + 128 < 2 ^ 8 by omega)]
 have := Nat.mod_add_div P.2.val (256 ^ 31)
 rw [h2, ← hx] at this
 omega
end Ed
theorem rep_x {q : Ed.Q4} {P : Fp.F × Fp.F} (h : Ed.Rep q P) : q.x * Fp.inv q.z = P.1 := (Ed.eq_div h.1 h.2.1).symm
theorem rep_y {q : Ed.Q4} {P : Fp.F × Fp.F} (h : Ed.Rep q P) : q.y * Fp.inv q.z = P.2 := (Ed.eq_div h.1 h.2.2.1).symm
theorem u8_val {n : Nat} (h : n < 256) : ((UInt8.ofNat n).toNat : Int) = (n : Int) := by rw [UInt8.toNat_ofNat']; omega
theorem or128 : ∀ x : Fin 128, bits .or .u8 ((x.val : Nat) : Int) 128 = ((x.val + 128 : Nat) : Int) := by decide +kernel
theorem and127 : ∀ x : Fin 256, bits .and .u8 ((x.val : Nat) : Int) 127 = ((x.val % 128 : Nat) : Int) := by decide +kernel
theorem Pbytes_any {cs : Array Value} {P : Fp.F × Fp.F} (hP : PP cs P) (w : World) :
  Calls Tryz.prog 78 #[.agg cs] w fun e w' => ∃ g, e = .returned (.slice (some ⟨g, 0, none⟩) 32 32) ∧ w.heap.size ≤ g ∧ Blk w' g 5 (bys (Ed.enc P)) ∧ Ext w w' := by
 obtain ⟨p1, p2, p3, p4, b, rfl, hP⟩ := hP.pc
 have hpt := Ed.p_top
 have hy := P.2.isLt
 obtain ⟨x, hx⟩ : ∃ x, x = ((Fp.le 32 P.2.val).getD 31 0).toNat := ⟨_, rfl⟩
 have hx8 : x < 128 := hx ▸ (Ed.last_lt (x := P.2.val) (by omega)).1
 have hle : (Fp.le 32 P.2.val).length = 32 := Fp.le_length 32 _
 have E := Ext.refl w
 refine vc_enter1 26 Tryz.func78 rfl rfl rfl rfl ?_
 intro Q hret
 refine wc_seq ?_; intro K1 hK1
 refine wc_region ?_
 refine wl_ef (ef_box (cs := pc p1 p2 p3 p4 b) rfl rfl) rfl ?_
 rintro _ w1 ⟨g1, rfl, B1, hg1, ex⟩
 replace E := E.ext ex
 skip
 refine wl_y (y_assign rfl) rfl ?_
 refine wl_nil ?_
 refine wq_then_norm (hK1 ?_)
 refine wc_seq ?_; intro K2 hK2
 refine wc_region ?_
 refine wl_y (y_q rfl B1) rfl ?_
 refine wl_call Tryz.func156 rfl rfl rfl (preal_any hP _) rfl ?_
 rintro e w3 ⟨c3, rfl, P3, ex⟩
 refine ⟨_, rfl, ?_⟩
 replace E := E.ext ex
 replace B1 := B1.ext ex
 obtain ⟨f1, f2, f3, f4, rfl, q, F1, F2, F3, F4, R⟩ := P3.get
 refine wl_ef (ef_storeW rfl rfl (by rw [pc_size]; kernel_rfl) B1 (by rw [pc_size, pc_size]) (pc_one _ _ _ _ _)) rfl ?_
 rintro _ w4 ⟨rfl, D1, cg⟩
 replace E := E.chg cg (by omega)
 refine wl_nil ?_
 refine wq_then_norm (hK2 ?_)
 refine wc_seq ?_; intro K3 hK3
 refine wc_region ?_
 refine wl_y (y_fieldAddr (o := 10) (s := 5) (off := 0) (o' := 10) rfl Tryz.underlying137 rfl (by kernel_rfl) rfl rfl) rfl ?_
 refine wl_y (y_q2 rfl D1) rfl ?_
 refine wl_call Tryz.func153 rfl rfl rfl (Finv_any F3 _) rfl ?_
 rintro e w5 ⟨c5, rfl, FI, ex⟩
 refine ⟨_, rfl, ?_⟩
 replace E := E.ext ex
 replace D1 := D1.ext ex
 obtain ⟨fi, rfl, FI⟩ := FI.fe
 have hz := E.size; have hl := D1.lt
 refine wl_ef (ef_alloc (Z := fe zf) (by kernel_rfl)) rfl ?_
 rintro _ w6 ⟨g3, rfl, B3, hg3, ex⟩
 replace E := E.ext ex
 replace D1 := D1.ext ex
 skip
 refine wl_ef (ef_storeW rfl rfl (by rw [fe_size]; kernel_rfl) B3 (by rw [fe_size, fe_size]) (fe_one _)) rfl ?_
 rintro _ w7 ⟨rfl, D3, cg⟩
 replace E := E.chg cg (by omega); replace D1 := D1.chg cg (by omega)
 refine wl_nil ?_
 refine wq_then_norm (hK3 ?_)
 refine wc_seq ?_; intro K4 hK4
 refine wc_region ?_
 refine wl_y (y_fieldAddr (o := 5) (s := 5) (off := 0) (o' := 5) rfl Tryz.underlying137 rfl (by kernel_rfl) rfl rfl) rfl ?_
 refine wl_y (y_q1 rfl D1) rfl ?_
 refine wl_y (y_lE rfl D3) rfl ?_
 refine wl_call Tryz.func152 rfl rfl rfl (Fmul_any F2 FI _) rfl ?_
 rintro e w8 ⟨c8, rfl, FY, ex⟩
 refine ⟨_, rfl, ?_⟩
 replace E := E.ext ex
 replace D1 := D1.ext ex
 replace D3 := D3.ext ex
 rw [rep_y R] at FY
 have hz3 := E.size
 refine wl_call Tryz.func162 rfl rfl rfl (fbytes_any FY _) rfl ?_
 rintro e w9 ⟨g9, rfl, hg9, B9, ex⟩
 refine ⟨_, rfl, ?_⟩
 replace E := E.ext ex
 replace D1 := D1.ext ex
 replace D3 := D3.ext ex
 skip
 refine wl_y (y_assign rfl) rfl ?_
 refine wl_nil ?_
 refine wq_then_norm (hK4 ?_)
 refine wc_seq ?_; intro K5 hK5
 refine wc_seq ?_; intro K6 hK6
 refine wc_region ?_
 refine wl_y (y_fieldAddr (o := 0) (s := 5) (off := 0) (o' := 0) rfl Tryz.underlying137 rfl (by kernel_rfl) rfl rfl) rfl ?_
 refine wl_y (y_q0 rfl D1) rfl ?_
 refine wl_y (y_lE rfl D3) rfl ?_
 refine wl_call Tryz.func152 rfl rfl rfl (Fmul_any F1 FI _) rfl ?_
 rintro e w10 ⟨c10, rfl, FX, ex⟩
 refine ⟨_, rfl, ?_⟩
 replace E := E.ext ex
 replace D1 := D1.ext ex
 replace D3 := D3.ext ex
 replace B9 := B9.ext ex
 rw [rep_x R] at FX
 refine wl_call Tryz.func163 rfl rfl rfl (Fodd_any FX _) rfl ?_
 rintro e w11 ⟨rfl, ex⟩
 refine ⟨_, rfl, ?_⟩
 replace E := E.ext ex
 replace D1 := D1.ext ex
 replace D3 := D3.ext ex
 replace B9 := B9.ext ex
 skip
 refine wl_nil ?_
 refine wq_then_norm (hK6 ?_)
 refine wc_dec rfl (fun hc1 => ?_) (fun hc1 => ?_)
 ·skip
  refine wc_region ?_
  refine wl_y (y_move rfl) rfl ?_
  refine wl_y (y_ixs1 rfl rfl Tryz.underlying23 (by kernel_rfl) (j := 31) rfl (by omega)) rfl ?_
  refine wl_y (y_load1 rfl Tryz.underlying5 rfl (B9.get (bys_get (i := 31) (by omega)))) rfl ?_
  refine wl_y (y_or rfl rfl (show bits .or .u8 _ 128 = ((x + 128 : Nat) : Int) by rw [← hx]; exact or128 ⟨x, hx8⟩)) rfl ?_
  refine wl_y (y_ixs1 rfl rfl Tryz.underlying23 (by kernel_rfl) (j := 31) rfl (by omega)) rfl ?_
  rw [← u8_val (n := x + 128) (by omega)]
  refine wl_ef (ef_storeB rfl rfl rfl (by kernel_rfl) B9 (by rw [bys_size]; omega)) rfl ?_
  rintro _ w12 ⟨rfl, D9, cg⟩
  replace E := E.chg cg (by omega); rw [bys_set, Ed.enc_odd hc1 hx] at D9
  refine wl_nil ?_
  refine wq_then_norm (hK5 ?_)
  refine wc_seq ?_; intro K7 hK7
  refine wc_region ?_
  refine wl_y (y_move rfl) rfl ?_
  refine wl_y (y_assign rfl) rfl ?_
  refine wl_nil ?_
  refine wq_then_norm (hK7 ?_)
  refine wc_ret ?_
  refine hret rfl ?_
  exact ⟨g9, rfl, by omega, D9, E⟩
 ·skip
  refine wc_skip ?_
  refine wq_then_norm (hK5 ?_)
  refine wc_seq ?_; intro K8 hK8
  refine wc_region ?_
  refine wl_y (y_move rfl) rfl ?_
  refine wl_y (y_assign rfl) rfl ?_
  refine wl_nil ?_
  refine wq_then_norm (hK8 ?_)
  refine wc_ret ?_
  refine hret rfl ?_
  exact ⟨g9, rfl, by omega, B9.congr (by rw [Ed.enc_even hc1]), E⟩
end
end
section
open Go.RowKit
section
attribute [local irreducible] Y Ef WL WC WK WQ WM OpM WN WF OpN
namespace Ed
open Fp
theorem dec_len {xs : List UInt8} (h : xs.length ≠ 32) : dec xs = none := by unfold dec; rw [if_pos (.inl h)]
theorem dec_big {xs : List UInt8} (h : ¬ num xs % top < p) : dec xs = none := by unfold dec; rw [if_pos (.inr (Nat.le_of_not_lt h))]
theorem dec_root {xs : List UInt8} (h : ¬ Sqr (sq (of (num xs % top))) ∨ (root (sq (of (num xs % top))) = 0 ∧ top ≤ num xs)) : dec xs = none := by
 unfold dec
 by_cases h1 : xs.length ≠ 32 ∨ p ≤ num xs % top
 ·rw [if_pos h1]
 ·rw [if_neg h1, if_pos h]
theorem dec_some {xs : List UInt8} (hl : xs.length = 32) (hp : num xs % top < p) (hs : Sqr (sq (of (num xs % top)))) (h0 : root (sq (of (num xs % top))) = 0 → ¬ top ≤ num xs) :
  dec xs = some (if top ≤ num xs then - root (sq (of (num xs % top))) else root (sq (of (num xs % top))), of (num xs % top)) := by
 unfold dec
 rw [if_neg (by rintro (h | h) <;> omega), if_neg (by rintro (h | ⟨h, k⟩); (· exact h hs); (· exact h0 h k))]
theorem odd_iff {xs : List UInt8} (hl : xs.length = 32) : (xs.getD 31 0).toNat / 128 = 1 ↔ top ≤ num xs := by
 have h := high_bit hl
 have hb := num_lt32 hl
 rw [← h]
 constructor
 ·intro e; exact Nat.le_of_not_lt fun hc => by rw [Nat.div_eq_of_lt hc] at e; omega
 ·intro e; exact Nat.div_eq_of_lt_le (by omega) (by omega)
theorem num_low {xs : List UInt8} (hl : xs.length = 32) : num (xs.set 31 (UInt8.ofNat ((xs.getD 31 0).toNat % 128))) = num xs % top := by
 rw [num_set31 hl, UInt8.toNat_ofNat', Nat.mod_eq_of_lt (show (xs.getD 31 0).toNat % 128 < 2 ^ 8 by omega), top31, Nat.mod_mul]
 have h1 := num_drop xs 31 (by omega)
 have e : xs.drop 31 = [xs.getD 31 0] := by
  rw [List.drop_eq_getElem_cons (by omega), List.drop_of_length_le (by omega), List.getD_eq_getElem?_getD, List.getElem?_eq_getElem (by omega)]; rfl
 rw [e] at h1
 have h2 : (xs.getD 31 0).toNat = num xs / 256 ^ 31 := by rw [← h1]; simp [num]
 rw [h2]
theorem low_eq {xs : List UInt8} (hl : xs.length = 32) : (le 32 (of (num xs % top)).val = xs.set 31 (UInt8.ofNat ((xs.getD 31 0).toNat % 128))) ↔ num xs % top < p := by
 have h1 := num_low hl
 have hpt := p_top
 have hm : num xs % top % p < p := Nat.mod_lt _ (by unfold p; omega)
 constructor
 ·intro e
  have h2 := congrArg num e
  rw [h1, le_num 32 _ (by rw [val_of, ← top2]; omega), val_of] at h2
  omega
 ·intro h
  refine num_inj (by rw [le_length, List.length_set, hl]) ?_
  rw [h1, le_num 32 _ (by rw [val_of, ← top2]; omega), val_of, Nat.mod_eq_of_lt h]
theorem ofB_eq {xs : List UInt8} (hl : xs.length = 32) : of (ofB xs) = of (num xs % top) := by
 unfold ofB
 rw [List.take_of_length_le (by omega), of_mod]
 rfl
end Ed
theorem bool_iff {p q : Prop} [Decidable p] [Decidable q] (h : p ↔ q) : Value.bool (decide p) = .bool (decide q) := by congr 1; exact decide_eq_decide.2 h
theorem Pof_any (A : Option Addr) (n c : Nat) (xs : List UInt8) (w : World) (HA : Bs w A n xs) :
  Calls Tryz.prog 139 #[.slice A n c] w fun e w' => ∃ cs, e = .returned (.tuple #[.agg cs, .bool (Ed.dec xs).isSome]) ∧ PP cs ((Ed.dec xs).getD Ed.O) ∧ Ext w w' := by
 have hl := HA.1
 have E := Ext.refl w
 obtain ⟨y, hy⟩ : ∃ y, y = Fp.of (Fp.num xs % Ed.top) := ⟨_, rfl⟩
 obtain ⟨x, hx⟩ : ∃ x, x = (xs.getD 31 0).toNat := ⟨_, rfl⟩
 have hx8 : x < 256 := hx ▸ (xs.getD 31 0).toNat_lt
 refine vc_enterct (s := 21) 54 Tryz.func139 rfl rfl rfl Tryz.underlying137 rfl (by kernel_rfl) rfl ?_
 intro Q hret
 refine wc_seq ?_; intro K1 hK1
 refine wc_region ?_
 refine wl_ef (ef_alloc (Z := pc zf zf zf zf false) (by kernel_rfl)) rfl ?_
 rintro _ w1 ⟨g2, rfl, B2, hg2, ex⟩
 replace E := E.ext ex
 skip
 refine wl_y (y_assign rfl) rfl ?_
 refine wl_nil ?_
 refine wq_then_norm (hK1 ?_)
 refine wc_seq ?_; intro K2 hK2
 refine wc_seq ?_; intro K3 hK3
 refine wc_region ?_
 refine wl_y (y_move rfl) rfl ?_
 refine wl_y (y_len_slice rfl Tryz.underlying23) rfl ?_
 refine wl_y (y_neq rfl rfl) rfl ?_
 refine wl_nil ?_
 refine wq_then_norm (hK3 ?_)
 refine wc_dec rfl (fun hc1 => ?_) (fun hc1 => ?_)
 ·skip
  refine wc_seq ?_; intro K4 hK4
  refine wc_region ?_
  refine wl_y (y_build rfl (cells := pc zf zf zf zf false) (by kernel_rfl)) rfl ?_
  refine wl_ef (ef_storeW rfl rfl (by rw [pc_size]; kernel_rfl) B2 (by simp only [pc_size]) (pc_one _ _ _ _ _)) rfl ?_
  rintro _ w7 ⟨rfl, D2, cg⟩
  replace E := E.chg cg (by omega)
  refine wl_y (y_assign rfl) rfl ?_
  refine wl_nil ?_
  refine wq_then_norm (hK4 ?_)
  refine wc_ret ?_
  refine wq_then_ret ?_
  refine hret rfl rfl D2 (pc_size _ _ _ _ _) ?_
  exact ⟨_, by rw [Ed.dec_len (by omega)]; rfl, by rw [Ed.dec_len (by omega)]; exact PP.zero, E⟩
 ·skip
  refine wc_skip ?_
  refine wq_then_norm (hK2 ?_)
  refine wc_seq ?_; intro K5 hK5
  have h32 : xs.length = 32 := by omega
  have hn : n = 32 := by omega
  subst hn
  have hlow := Ed.low_eq h32
  have hodd := Ed.odd_iff h32
  rw [← hx] at hlow hodd
  rw [← hy] at hlow
  obtain ⟨b0, off0, rfl, _, _⟩ := HA.get (k := 0) (by omega)
  refine wc_region ?_
  refine wl_y (y_move rfl) rfl ?_
  refine wl_call Tryz.func203 rfl rfl rfl (Fof_any _ 32 c xs _ (HA.ext E)) rfl ?_
  rintro e w3 ⟨c3, rfl, FY, ex⟩
  refine ⟨_, rfl, ?_⟩
  replace E := E.ext ex
  replace B2 := B2.ext ex
  rw [Ed.ofB_eq h32, ← hy] at FY; obtain ⟨f3, rfl, FY⟩ := FY.fe
  have hz := E.size; have hl2 := B2.lt
  refine wl_ef (ef_alloc (Z := fe zf) (by kernel_rfl)) rfl ?_
  rintro _ w4 ⟨g4, rfl, B4, hg4, ex⟩
  replace E := E.ext ex
  replace B2 := B2.ext ex
  skip
  refine wl_ef (ef_storeW rfl rfl (by rw [fe_size]; kernel_rfl) B4 (by rw [fe_size, fe_size]) (fe_one _)) rfl ?_
  rintro _ w5 ⟨rfl, D4, cg⟩
  replace E := E.chg cg (by omega); replace B2 := B2.chg cg (by omega)
  refine wl_nil ?_
  refine wq_then_norm (hK5 ?_)
  refine wc_seq ?_; intro K6 hK6
  refine wc_region ?_
  obtain ⟨x', hx', hcx⟩ := (HA.ext E).byteAt (k := 31) (by omega)
  rw [hx'.out, ← hx] at hcx
  refine wl_y (y_move rfl) rfl ?_
  refine wl_y (y_ixs1 rfl rfl Tryz.underlying23 (by kernel_rfl) (j := 31) rfl (by omega)) rfl ?_
  refine wl_y (y_load1 rfl Tryz.underlying5 rfl hcx) rfl ?_
  refine wl_y (y_shr rfl rfl (by omega) (show ((x : Nat) : Int) / 2 ^ min (7 : Int).toNat IntKind.u8.bits = ((x / 128 : Nat) : Int) from rfl)) rfl ?_
  refine wl_y (Y.as (y_eql rfl rfl) (bool_iff (show ((x / 128 : Nat) : Int) = 1 ↔ Ed.top ≤ Fp.num xs by rw [← hodd]; omega))) rfl ?_
  refine wl_y (y_assign rfl) rfl ?_
  refine wl_nil ?_
  refine wq_then_norm (hK6 ?_)
  refine wc_seq ?_; intro K7 hK7
  refine wc_region ?_
  refine wl_y (y_move rfl) rfl ?_
  have hl25 := B2.lt; have hl45 := D4.lt; have hz5 := E.size
  refine wl_call Tryz.func107 rfl rfl rfl (bclone2_any _ 32 c xs _ (HA.ext E) (by omega) (by omega)) rfl ?_
  rintro e w6 ⟨A6, c6, rfl, R6, ex⟩
  refine ⟨_, rfl, ?_⟩
  replace E := E.ext ex
  replace B2 := B2.ext ex
  replace D4 := D4.ext ex
  skip
  refine wl_y (y_assign rfl) rfl ?_
  refine wl_nil ?_
  refine wq_then_norm (hK7 ?_)
  refine wc_seq ?_; intro K8 hK8
  refine wc_region ?_
  obtain ⟨g6, rfl, hcy, hg6, hl6⟩ := R6.byte (i := 31) (by omega)
  rw [← hx] at hcy
  refine wl_y (y_move rfl) rfl ?_
  refine wl_y (y_ixs1 rfl rfl Tryz.underlying23 (by kernel_rfl) (j := 31) rfl (by omega)) rfl ?_
  refine wl_y (y_load1 rfl Tryz.underlying5 rfl hcy) rfl ?_
  refine wl_y (y_and rfl rfl (show bits .and .u8 ((x : Nat) : Int) 127 = ((x % 128 : Nat) : Int) from and127 ⟨x, hx8⟩)) rfl ?_
  refine wl_y (y_ixs1 rfl rfl Tryz.underlying23 (by kernel_rfl) (j := 31) rfl (by omega)) rfl ?_
  rw [← u8_val (n := x % 128) (by omega)]
  refine wl_ef (ef_storeR rfl rfl rfl (by kernel_rfl) R6 (by omega)) rfl ?_
  rintro _ w7 ⟨rfl, R7, cg⟩
  replace E := E.chg cg (by omega); replace B2 := B2.chg cg (by omega); replace D4 := D4.chg cg (by omega); replace R7 := R7.congr rfl (show _ = (xs.set 31 (UInt8.ofNat (x % 128))).map bv by rw [List.map_set]; rfl); have H7 := R7.bs
  refine wl_nil ?_
  refine wq_then_norm (hK8 ?_)
  refine wc_seq ?_; intro K9 hK9
  refine wc_seq ?_; intro K10 hK10
  refine wc_region ?_
  refine wl_y (y_lE rfl D4) rfl ?_
  refine wl_call Tryz.func162 rfl rfl rfl (fbytes_any FY _) rfl ?_
  rintro e w8 ⟨g8, rfl, hg8, B8, ex⟩
  refine ⟨_, rfl, ?_⟩
  replace E := E.ext ex
  replace B2 := B2.ext ex
  replace D4 := D4.ext ex
  replace H7 := H7.ext ex
  skip
  refine wl_y (y_move rfl) rfl ?_
  refine wl_call Tryz.func96 rfl rfl rfl (bytesEqual_any _ _ 32 32 32 _ _ _ _ (bs_blk' B8 (Fp.le_length 32 _)) H7) rfl ?_
  rintro e w9 ⟨rfl, ex⟩
  refine ⟨_, rfl, ?_⟩
  replace E := E.ext ex
  replace B2 := B2.ext ex
  replace D4 := D4.ext ex
  replace H7 := H7.ext ex
  replace B8 := B8.ext ex
  skip
  refine wl_y (y_not rfl) rfl ?_
  refine wl_nil ?_
  refine wq_then_norm (hK10 ?_)
  refine wc_cond rfl (fun hc2 => ?_) (fun hc2 => ?_)
  ·skip
   refine wc_seq ?_; intro K11 hK11
   refine wc_region ?_
   refine wl_y (y_build rfl (cells := pc zf zf zf zf false) (by kernel_rfl)) rfl ?_
   refine wl_ef (ef_storeW rfl rfl (by rw [pc_size]; kernel_rfl) B2 (by simp only [pc_size]) (pc_one _ _ _ _ _)) rfl ?_
   rintro _ w10 ⟨rfl, D2, cg⟩
   replace E := E.chg cg (by omega); have hd := Ed.dec_big (xs := xs) fun h => by rw [decide_eq_true (hlow.2 h)] at hc2; cases hc2
   refine wl_y (y_assign rfl) rfl ?_
   refine wl_nil ?_
   refine wq_then_norm (hK11 ?_)
   refine wc_ret ?_
   refine wq_then_ret ?_
   refine hret rfl rfl D2 (pc_size _ _ _ _ _) ?_
   exact ⟨_, by rw [hd]; rfl, by rw [hd]; exact PP.zero, E⟩
  ·skip
   refine wc_skip ?_
   refine wq_then_norm (hK9 ?_)
   refine wc_seq ?_; intro K12 hK12
   have hp : Fp.num xs % Ed.top < Fp.p := hlow.1 (Classical.byContradiction fun h => by rw [decide_eq_false h] at hc2; cases hc2)
   refine wc_region ?_
   refine wl_y (y_lE rfl D4) rfl ?_
   refine wl_call Tryz.func154 rfl rfl rfl (pflat_any FY _) rfl ?_
   rintro e w11 ⟨f11, rfl, FX, ex⟩
   refine ⟨_, rfl, ?_⟩
   replace E := E.ext ex
   replace B2 := B2.ext ex
   replace D4 := D4.ext ex
   skip
   refine wl_y (y_move rfl) rfl ?_
   refine wl_y (y_extract rfl rfl) rfl ?_
   refine wl_y (y_extract rfl rfl) rfl ?_
   have hz9 := E.size; have hl29 := B2.lt; have hl49 := D4.lt
   refine wl_ef (ef_alloc (Z := fe zf) (by kernel_rfl)) rfl ?_
   rintro _ w12 ⟨g12, rfl, B12, hg12, ex⟩
   replace E := E.ext ex
   replace B2 := B2.ext ex
   replace D4 := D4.ext ex
   skip
   refine wl_ef (ef_storeW rfl rfl (by rw [fe_size]; kernel_rfl) B12 (by rw [fe_size, fe_size]) (fe_one _)) rfl ?_
   rintro _ w13 ⟨rfl, D12, cg⟩
   replace E := E.chg cg (by omega); replace B2 := B2.chg cg (by omega); replace D4 := D4.chg cg (by omega)
   refine wl_y (y_assign rfl) rfl ?_
   refine wl_nil ?_
   refine wq_then_norm (hK12 ?_)
   refine wc_seq ?_; intro K13 hK13
   refine wc_seq ?_; intro K14 hK14
   refine wc_region ?_
   refine wl_yask (y_move rfl) rfl (fun hs => ?_) (fun hs => ?_)
   ·skip
    refine wl_y (y_not rfl) rfl ?_
    refine wl_y (y_move rfl) rfl ?_
    refine wl_gy 40 rfl rfl (y_lE rfl D12) rfl ?_
    rw [if_pos hs] at FX
    refine wl_gcall 40 rfl rfl Tryz.func204 rfl rfl rfl (Fzero_any FX _) rfl ?_
    rintro e w14 ⟨rfl, ex⟩
    refine ⟨_, rfl, ?_⟩
    replace E := E.ext ex
    replace B2 := B2.ext ex
    replace D4 := D4.ext ex
    replace D12 := D12.ext ex
    skip
    refine wl_gyask 40 rfl rfl (y_move rfl) rfl (fun h0 => ?_) (fun h0 => ?_)
    ·skip
     refine wl_gy 43 rfl rfl (y_move rfl) rfl ?_
     refine wl_gy 40 rfl rfl (y_pickt rfl rfl) rfl ?_
     refine wl_y (y_pickf rfl rfl) rfl ?_
     refine wl_nil ?_
     refine wq_then_norm (hK14 ?_)
     refine wc_dec rfl (fun hc3 => ?_) (fun hc3 => ?_)
     ·skip
      refine wc_seq ?_; intro K15 hK15
      refine wc_region ?_
      refine wl_y (y_build rfl (cells := pc zf zf zf zf false) (by kernel_rfl)) rfl ?_
      have hd := Ed.dec_root (xs := xs) (.inr ⟨by rw [← hy]; exact h0, hc3⟩)
      refine wl_ef (ef_storeW rfl rfl (by rw [pc_size]; kernel_rfl) B2 (by simp only [pc_size]) (pc_one _ _ _ _ _)) rfl ?_
      rintro _ w10 ⟨rfl, D2, cg⟩
      replace E := E.chg cg (by omega)
      refine wl_y (y_assign rfl) rfl ?_
      refine wl_nil ?_
      refine wq_then_norm (hK15 ?_)
      refine wc_ret ?_
      refine wq_then_ret ?_
      refine hret rfl rfl D2 (pc_size _ _ _ _ _) ?_
      exact ⟨_, by rw [hd]; rfl, by rw [hd]; exact PP.zero, E⟩
     ·skip
      refine wc_skip ?_
      refine wq_then_norm (hK13 ?_)
      refine wc_seq ?_; intro K16 hK16
      refine wc_seq ?_; intro K17 hK17
      have hd := Ed.dec_some (xs := xs) h32 hp (by rw [← hy]; exact hs) (fun _ => hc3)
      refine wc_region ?_
      refine wl_y (y_move rfl) rfl ?_
      refine wl_nil ?_
      refine wq_then_norm (hK17 ?_)
      refine wc_no rfl hc3 ?_
      refine wc_skip ?_
      refine wq_then_norm (hK16 ?_)
      refine wc_seq ?_; intro K18 hK18
      rw [if_neg hc3, ← hy] at hd
      refine wc_region ?_
      refine wl_y (y_lE rfl D12) rfl ?_
      refine wl_y (y_lE rfl D4) rfl ?_
      refine wl_call Tryz.func155 rfl rfl rfl (pof_any FX FY _) rfl ?_
      rintro e w17 ⟨c17, rfl, P17, ex⟩
      refine ⟨_, rfl, ?_⟩
      replace E := E.ext ex
      replace B2 := B2.ext ex
      replace D4 := D4.ext ex
      replace D12 := D12.ext ex
      skip
      refine wl_ef (ef_storeW rfl rfl (by rw [P17.size]; kernel_rfl) B2 (by rw [pc_size, P17.size]) P17.one) rfl ?_
      rintro _ w18 ⟨rfl, D2, cg⟩
      replace E := E.chg cg (by omega)
      refine wl_y (y_assign rfl) rfl ?_
      refine wl_nil ?_
      refine wq_then_norm (hK18 ?_)
      refine wc_ret ?_
      refine hret rfl rfl D2 P17.size ?_
      exact ⟨_, by rw [hd]; rfl, by rw [hd]; exact P17.pp, E⟩
    ·skip
     refine wl_gno 43 rfl rfl rfl rfl ?_
     refine wl_gy 40 rfl rfl (y_pickf rfl rfl) rfl ?_
     refine wl_y (y_pickf rfl rfl) rfl ?_
     refine wl_nil ?_
     refine wq_then_norm (hK14 ?_)
     refine wc_false rfl rfl ?_
     refine wc_skip ?_
     refine wq_then_norm (hK13 ?_)
     refine wc_seq ?_; intro K19 hK19
     refine wc_seq ?_; intro K20 hK20
     have hd := Ed.dec_some (xs := xs) h32 hp (by rw [← hy]; exact hs) (fun h => absurd (by rw [hy]; exact h) h0)
     refine wc_region ?_
     refine wl_y (y_move rfl) rfl ?_
     refine wl_nil ?_
     refine wq_then_norm (hK20 ?_)
     refine wc_dec rfl (fun hc4 => ?_) (fun hc4 => ?_)
     ·skip
      refine wc_region ?_
      refine wl_y (y_lE rfl D12) rfl ?_
      refine wl_call Tryz.func205 rfl rfl rfl (Fneg_any FX _) rfl ?_
      rintro e w15 ⟨c15, rfl, FN, ex⟩
      refine ⟨_, rfl, ?_⟩
      replace E := E.ext ex
      replace B2 := B2.ext ex
      replace D4 := D4.ext ex
      replace D12 := D12.ext ex
      obtain ⟨f15, rfl, FN⟩ := FN.fe
      refine wl_ef (ef_storeW rfl rfl (by rw [fe_size]; kernel_rfl) D12 (by rw [fe_size, fe_size]) (fe_one _)) rfl ?_
      rintro _ w16 ⟨rfl, D13, cg⟩
      replace E := E.chg cg (by omega); replace B2 := B2.chg cg (by omega); replace D4 := D4.chg cg (by omega); replace D12 := D13; replace FX := FN; rw [if_pos hc4, ← hy] at hd
      refine wl_nil ?_
      refine wq_then_norm (hK19 ?_)
      refine wc_seq ?_; intro K21 hK21
      refine wc_region ?_
      refine wl_y (y_lE rfl D12) rfl ?_
      refine wl_y (y_lE rfl D4) rfl ?_
      refine wl_call Tryz.func155 rfl rfl rfl (pof_any FX FY _) rfl ?_
      rintro e w17 ⟨c17, rfl, P17, ex⟩
      refine ⟨_, rfl, ?_⟩
      replace E := E.ext ex
      replace B2 := B2.ext ex
      replace D4 := D4.ext ex
      replace D12 := D12.ext ex
      skip
      refine wl_ef (ef_storeW rfl rfl (by rw [P17.size]; kernel_rfl) B2 (by rw [pc_size, P17.size]) P17.one) rfl ?_
      rintro _ w18 ⟨rfl, D2, cg⟩
      replace E := E.chg cg (by omega)
      refine wl_y (y_assign rfl) rfl ?_
      refine wl_nil ?_
      refine wq_then_norm (hK21 ?_)
      refine wc_ret ?_
      refine hret rfl rfl D2 P17.size ?_
      exact ⟨_, by rw [hd]; rfl, by rw [hd]; exact P17.pp, E⟩
     ·skip
      refine wc_skip ?_
      refine wq_then_norm (hK19 ?_)
      refine wc_seq ?_; intro K22 hK22
      rw [if_neg hc4, ← hy] at hd
      refine wc_region ?_
      refine wl_y (y_lE rfl D12) rfl ?_
      refine wl_y (y_lE rfl D4) rfl ?_
      refine wl_call Tryz.func155 rfl rfl rfl (pof_any FX FY _) rfl ?_
      rintro e w17 ⟨c17, rfl, P17, ex⟩
      refine ⟨_, rfl, ?_⟩
      replace E := E.ext ex
      replace B2 := B2.ext ex
      replace D4 := D4.ext ex
      replace D12 := D12.ext ex
      skip
      refine wl_ef (ef_storeW rfl rfl (by rw [P17.size]; kernel_rfl) B2 (by rw [pc_size, P17.size]) P17.one) rfl ?_
      rintro _ w18 ⟨rfl, D2, cg⟩
      replace E := E.chg cg (by omega)
      refine wl_y (y_assign rfl) rfl ?_
      refine wl_nil ?_
      refine wq_then_norm (hK22 ?_)
      refine wc_ret ?_
      refine hret rfl rfl D2 P17.size ?_
      exact ⟨_, by rw [hd]; rfl, by rw [hd]; exact P17.pp, E⟩
   ·skip
    refine wl_y (y_not rfl) rfl ?_
    refine wl_y (y_move rfl) rfl ?_
    refine wl_gno 40 rfl rfl rfl rfl ?_
    refine wl_gno 40 rfl rfl rfl rfl ?_
    refine wl_gno 40 rfl rfl rfl rfl ?_
    refine wl_gun 43 rfl rfl rfl ?_
    refine wl_gno 40 rfl rfl rfl rfl ?_
    refine wl_y (y_pickt rfl rfl) rfl ?_
    refine wl_nil ?_
    refine wq_then_norm (hK14 ?_)
    refine wc_true rfl rfl ?_
    refine wc_seq ?_; intro K23 hK23
    refine wc_region ?_
    refine wl_y (y_build rfl (cells := pc zf zf zf zf false) (by kernel_rfl)) rfl ?_
    have hd := Ed.dec_root (xs := xs) (.inl (by rw [← hy]; exact hs))
    refine wl_ef (ef_storeW rfl rfl (by rw [pc_size]; kernel_rfl) B2 (by simp only [pc_size]) (pc_one _ _ _ _ _)) rfl ?_
    rintro _ w10 ⟨rfl, D2, cg⟩
    replace E := E.chg cg (by omega)
    refine wl_y (y_assign rfl) rfl ?_
    refine wl_nil ?_
    refine wq_then_norm (hK23 ?_)
    refine wc_ret ?_
    refine wq_then_ret ?_
    refine hret rfl rfl D2 (pc_size _ _ _ _ _) ?_
    exact ⟨_, by rw [hd]; rfl, by rw [hd]; exact PP.zero, E⟩
end
section
attribute [local irreducible] Y Ef WL WC WK WQ WM OpM WN WF OpN
theorem dec_onD (xs : List UInt8) : Ed.On ((Ed.dec xs).getD Ed.O) := by
 cases h : Ed.dec xs with
 | none => exact Ed.on_O
 | some P => exact Ed.dec_on h
theorem y_qq {L : List (Nat × Value)} {w : World} {ty e : TypeId} {x : Operand} {g : Nat} {cs : Array Value} {P : Fp.F × Fp.F} (hx : ev L x = some (.pointer (some ⟨g, 0, none⟩))) (h : PP cs P) (B : Blk w g e cs) : Y Tryz.prog L w (.load 137 x) ty (.agg cs) := y_loadw hx Tryz.underlying137 rfl (by rw [h.size]; kernel_rfl) B
end
end
end Go.Proofs.YtjllhimhiekchaaGreat
