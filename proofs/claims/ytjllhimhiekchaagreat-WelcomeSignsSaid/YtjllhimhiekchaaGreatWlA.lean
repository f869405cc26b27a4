/- welcome: copies of infos, signed infos. No conditions: contracts of the program's functions. -/
import Derived.Test.YtjllhimhiekchaaGreatMuC
import Derived.Test.YtjllhimhiekchaaGreatVi
import Derived.Test.YtjllhimhiekchaaGreatNdM
namespace Go.Proofs.YtjllhimhiekchaaGreat
open Go.RowKit
attribute [local irreducible] Y Ef WL WC WK WQ WM OpM WN WF OpN WJ OpJ WG OpG WLr
open Wire Nd M20
def InfR (base : Nat) (w : World) (cs : Array Value) (x : Inf) : Prop := InfC (fun h xs => Row w base 5 h.A h.n h.c (xs.map bv)) cs x
def InfAc (w : World) (cs : Array Value) (x : Inf) : Prop := InfAt w cs x ∧ ∀ A n c, cs[6]? = some (.slice A n c) → n ≤ c
theorem InfAc.mk {w : World} {g t u tg sg : Hd} {ep : Nat} {z : Int} {x : Inf} (h : InfAt w (infV g ep t u tg z sg) x) (hc : sg.n ≤ sg.c) : InfAc w (infV g ep t u tg z sg) x :=
 ⟨h, fun A n c e => by
  have e' : (some (Value.slice sg.A sg.n sg.c)) = some (.slice A n c) := e
  injection e' with e'
  injection e' with _ e2 e3
  rw [← e2, ← e3]; exact hc⟩
theorem InfAc.cap {w : World} {g t u tg sg : Hd} {ep : Nat} {z : Int} {x : Inf} (h : InfAc w (infV g ep t u tg z sg) x) : sg.n ≤ sg.c := h.2 _ _ _ rfl
theorem InfAc.at {w : World} {cs : Array Value} {x : Inf} (h : InfAc w cs x) : InfAt w cs x := h.1
theorem InfAc.ext {w w' : World} {cs : Array Value} {x : Inf} (h : InfAc w cs x) (e : Ext w w') : InfAc w' cs x := ⟨h.1.ext e, h.2⟩
set_option maxHeartbeats 1000000 in
theorem wcopied_any {cs : Array Value} {i : Inf} (w : World) (H : InfAt w cs i) (hf : i.Fit) :
  Calls Tryz.prog 72 #[.agg cs] w fun e w' => ∃ cs', e = .returned (.agg cs') ∧ InfR w.heap.size w' cs' i ∧ Ext w w' := by
 obtain ⟨gr, tr, u, tg, sg, rfl, he, hz, a, b, c, d, k⟩ := H
 have n1 := a.1; have n2 := b.1; have n3 := c.1; have n4 := d.1; have n5 := k.1
 obtain ⟨f1, f2, f3, f4, f5⟩ := hf
 have F := Chs.refl [] w
 have KA : Kp w.heap.size [] (fun w => Bs w gr.A gr.n i.ctx.grp) w := Kp.bs a (by simp)
 have KB : Kp w.heap.size [] (fun w => Bs w tr.A tr.n i.ctx.tree) w := Kp.bs b (by simp)
 have KC : Kp w.heap.size [] (fun w => Bs w u.A u.n i.ctx.trans) w := Kp.bs c (by simp)
 have KD : Kp w.heap.size [] (fun w => Bs w tg.A tg.n i.tag) w := Kp.bs d (by simp)
 have KE : Kp w.heap.size [] (fun w => Bs w sg.A sg.n i.sig) w := Kp.bs k (by simp)
 refine vc_enterc1 (s := 7) 32 Tryz.func72 rfl rfl rfl Tryz.underlying42 rfl (by kernel_rfl) rfl ?_
 intro Q hret
 refine wc_seq ?_; intro K1 hK1
 refine wc_region ?_
 refine wl_ef (ef_box rfl rfl) rfl ?_
 rintro _ wB1 ⟨gB1, rfl, B1, hgB1, ex⟩
 have lB1 := B1.lt; have zB1 := ex.size
 replace F := F.grow ex hgB1
 replace KA := KA.grow ex hgB1
 replace KB := KB.grow ex hgB1
 replace KC := KC.grow ex hgB1
 replace KD := KD.grow ex hgB1
 replace KE := KE.grow ex hgB1
 refine wl_ef (ef_alloc (Z := #[.slice none 0 0, .int .u64 0, .slice none 0 0, .slice none 0 0, .slice none 0 0, .int .i64 0, .slice none 0 0]) (by kernel_rfl)) rfl ?_
 rintro _ wB2 ⟨gB2, rfl, B2, hgB2, ex⟩
 have lB2 := B2.lt; have zB2 := ex.size
 have nB1_2 : gB1 < gB2 := Nat.lt_of_lt_of_le B1.lt hgB2
 replace F := F.grow ex hgB2
 replace KA := KA.grow ex hgB2
 replace KB := KB.grow ex hgB2
 replace KC := KC.grow ex hgB2
 replace KD := KD.grow ex hgB2
 replace KE := KE.grow ex hgB2
 replace B1 := B1.grow ex hgB2
 refine wl_nil ?_
 refine wq_then_norm (hK1 ?_)
 refine wc_seq ?_; intro K2 hK2
 refine wc_region ?_
 refine wl_y (y_fieldAddr (o := 0) (s := 4) (off := 0) (o' := 0) rfl Tryz.underlying42 rfl (by kernel_rfl) rfl rfl) rfl ?_
 refine wl_y (y_assign rfl) rfl ?_
 refine wl_nil ?_
 refine wq_then_norm (hK2 ?_)
 refine wc_seq ?_; intro K3 hK3
 refine wc_seq ?_; intro K4 hK4
 refine wc_draw (by kernel_rfl) 14 rfl ?_; intro wd2 ex hd2
 replace F := F.ext ex
 replace KA := KA.ext ex
 replace KB := KB.ext ex
 replace KC := KC.ext ex
 replace KD := KD.ext ex
 replace KE := KE.ext ex
 replace B1 := B1.ext ex
 replace B2 := B2.ext ex
 refine wm_y 0 rfl (by kernel_rfl) (y_move rfl) rfl ?_
 refine wm_y 1 rfl (by kernel_rfl) (y_nilp rfl) rfl ?_
 refine wm_y 2 rfl (by kernel_rfl) (y_fieldAddr (o := 0) (s := 1) (off := 0) (o' := 0) rfl Tryz.underlying40 rfl (by kernel_rfl) rfl rfl) rfl ?_
 refine wm_y 3 rfl (by kernel_rfl) (y_move rfl) rfl ?_
 refine wm_y 4 rfl (by kernel_rfl) (y_nilp rfl) rfl ?_
 refine wm_y 5 rfl (by kernel_rfl) (y_fieldAddr (o := 2) (s := 1) (off := 0) (o' := 2) rfl Tryz.underlying40 rfl (by kernel_rfl) rfl rfl) rfl ?_
 refine wm_y 6 rfl (by kernel_rfl) (y_move rfl) rfl ?_
 refine wm_y 7 rfl (by kernel_rfl) (y_nilp rfl) rfl ?_
 refine wm_y 8 rfl (by kernel_rfl) (y_fieldAddr (o := 3) (s := 1) (off := 0) (o' := 3) rfl Tryz.underlying40 rfl (by kernel_rfl) rfl rfl) rfl ?_
 refine wm_y 9 rfl (by kernel_rfl) (y_fieldAddr (o := 4) (s := 1) (off := 0) (o' := 4) rfl Tryz.underlying42 rfl (by kernel_rfl) rfl rfl) rfl ?_
 refine wm_y 10 rfl (by kernel_rfl) (y_fieldAddr (o := 6) (s := 1) (off := 0) (o' := 6) rfl Tryz.underlying42 rfl (by kernel_rfl) rfl rfl) rfl ?_
 refine wm_y 13 rfl (by kernel_rfl) (y_move rfl) rfl ?_
 have q0 := B1.lt; have q9 := B2.lt
 refine wm_one 11 (by kernel_rfl) ?_; refine om_ef rfl (ef_lit (z := .pointer none) Tryz.underlying199 (by kernel_rfl) rfl rfl rfl rfl rfl) rfl ?_
 rintro _ w18 ⟨g18, rfl, B18, hg18, ex⟩
 refine ⟨.inr ex, ?_⟩
 replace F := F.ext ex
 replace KA := KA.ext ex
 replace KB := KB.ext ex
 replace KC := KC.ext ex
 replace KD := KD.ext ex
 replace KE := KE.ext ex
 replace B1 := B1.ext ex
 replace B2 := B2.ext ex
 skip
 refine wm_y 12 rfl (by kernel_rfl) (y_len_slice rfl Tryz.underlying199) rfl ?_
 refine wm_done (by kernel_rfl) ?_
 refine wq_nop ?_
 refine wq_then_norm (hK4 ?_)
 refine wc_block ?_
 refine wc_unroll 6 ?_; refine wlr_succ ?_; intro KU1_1 hKU1_1
 refine wc_seq ?_; intro K5 hK5
 refine wc_region ?_
 refine wl_y (Y.as (y_lss rfl rfl) (congrArg Value.bool (decide_eq_true (by decide)))) rfl ?_
 refine wl_nil ?_
 refine wq_then_norm (hK5 ?_)
 refine wc_seq ?_; intro K6 hK6
 refine wc_true rfl rfl ?_
 refine wc_skip ?_
 refine wq_then_norm (hK6 ?_)
 refine wc_seq ?_; intro K7 hK7
 refine wc_block ?_
 refine wc_seq ?_; intro K8 hK8
 refine wc_region ?_
 refine wl_y (y_ixs1 rfl rfl Tryz.underlying199 (by kernel_rfl) (j := 0) rfl (by omega)) rfl ?_
 refine wl_y (y_load1 rfl Tryz.underlying161 rfl (B18.get (i := 0) rfl)) rfl ?_
 refine wl_y (y_assign rfl) rfl ?_
 refine wl_nil ?_
 refine wq_then_norm (hK8 ?_)
 refine wc_region ?_
 refine wl_y (y_move rfl) rfl ?_
 refine wl_y (y_move rfl) rfl ?_
 refine wl_y (y_nilp rfl) rfl ?_
 refine wl_y (y_load1 rfl Tryz.underlying23 rfl (B1.get (i := 0) rfl)) rfl ?_
 have yA := F.size; have qA := B1.lt; have tA := B2.lt
 refine wl_call Tryz.func107 rfl rfl rfl (bcloneR_any _ _ gr.c _ _ KA.out (by omega)) rfl ?_
 rintro e wcA ⟨AA, cA, rfl, RA, ex⟩
 refine ⟨_, rfl, ?_⟩
 replace F := F.ext ex
 replace KA := KA.ext ex
 replace KB := KB.ext ex
 replace KC := KC.ext ex
 replace KD := KD.ext ex
 replace KE := KE.ext ex
 replace B1 := B1.ext ex
 replace B2 := B2.ext ex
 replace B18 := B18.ext ex
 skip
 refine wl_y (y_nilp rfl) rfl ?_
 refine wl_ef (ef_storeB (i := 0) rfl rfl rfl (by kernel_rfl) B1 (Nat.le_of_ble_eq_true rfl)) rfl ?_
 rintro _ wSA ⟨rfl, D, cg⟩
 have ex := Chs.one cg
 clear cg
 replace F := F.chs ex
 replace KA := KA.chs ex
 replace KB := KB.chs ex
 replace KC := KC.chs ex
 replace KD := KD.chs ex
 replace KE := KE.chs ex
 replace B2 := B2.chs ex
 replace B18 := B18.chs ex
 replace RA := RA.chs ex
 have B1 := D.congr (cs' := infV ⟨AA, gr.n, cA⟩ i.ctx.ep tr u tg i.frm sg) rfl; clear D
 refine wl_nil ?_
 refine wq_blk_norm ?_
 refine wq_then_norm (hK7 ?_)
 refine wc_region ?_
 refine wl_y (y_add rfl rfl (i64_ok (by omega) (by omega))) rfl ?_
 refine wl_y (y_move rfl) rfl ?_
 refine wl_nil ?_
 refine wq_then_norm (hKU1_1 ?_)
 refine wlr_succ ?_; intro KU1_2 hKU1_2
 refine wc_seq ?_; intro K9 hK9
 refine wc_region ?_
 refine wl_y (Y.as (y_lss rfl rfl) (congrArg Value.bool (decide_eq_true (by decide)))) rfl ?_
 refine wl_nil ?_
 refine wq_then_norm (hK9 ?_)
 refine wc_seq ?_; intro K10 hK10
 refine wc_true rfl rfl ?_
 refine wc_skip ?_
 refine wq_then_norm (hK10 ?_)
 refine wc_seq ?_; intro K11 hK11
 refine wc_block ?_
 refine wc_seq ?_; intro K12 hK12
 refine wc_region ?_
 refine wl_y (y_ixs1 rfl rfl Tryz.underlying199 (by kernel_rfl) (j := 1) rfl (by omega)) rfl ?_
 refine wl_y (y_load1 rfl Tryz.underlying161 rfl (B18.get (i := 1) rfl)) rfl ?_
 refine wl_y (y_assign rfl) rfl ?_
 refine wl_nil ?_
 refine wq_then_norm (hK12 ?_)
 refine wc_region ?_
 refine wl_y (y_move rfl) rfl ?_
 refine wl_y (y_move rfl) rfl ?_
 refine wl_y (y_nilp rfl) rfl ?_
 refine wl_y (y_load1 rfl Tryz.underlying23 rfl (B1.get (i := 2) rfl)) rfl ?_
 have yB := F.size; have qB := B1.lt; have tB := B2.lt
 refine wl_call Tryz.func107 rfl rfl rfl (bcloneR_any _ _ tr.c _ _ KB.out (by omega)) rfl ?_
 rintro e wcB ⟨AB, cB, rfl, RB, ex⟩
 refine ⟨_, rfl, ?_⟩
 replace F := F.ext ex
 replace KA := KA.ext ex
 replace KB := KB.ext ex
 replace KC := KC.ext ex
 replace KD := KD.ext ex
 replace KE := KE.ext ex
 replace B2 := B2.ext ex
 replace B18 := B18.ext ex
 replace RA := RA.ext ex
 replace B1 := B1.ext ex
 skip
 refine wl_y (y_nilp rfl) rfl ?_
 refine wl_ef (ef_storeB (i := 2) rfl rfl rfl (by kernel_rfl) B1 (Nat.le_of_ble_eq_true rfl)) rfl ?_
 rintro _ wSB ⟨rfl, D, cg⟩
 have ex := Chs.one cg
 clear cg
 replace F := F.chs ex
 replace KA := KA.chs ex
 replace KB := KB.chs ex
 replace KC := KC.chs ex
 replace KD := KD.chs ex
 replace KE := KE.chs ex
 replace B2 := B2.chs ex
 replace B18 := B18.chs ex
 replace RA := RA.chs ex
 replace RB := RB.chs ex
 have B1 := D.congr (cs' := infV ⟨AA, gr.n, cA⟩ i.ctx.ep ⟨AB, tr.n, cB⟩ u tg i.frm sg) rfl; clear D
 refine wl_nil ?_
 refine wq_blk_norm ?_
 refine wq_then_norm (hK11 ?_)
 refine wc_region ?_
 refine wl_y (y_add rfl rfl (i64_ok (by omega) (by omega))) rfl ?_
 refine wl_y (y_move rfl) rfl ?_
 refine wl_nil ?_
 refine wq_then_norm (hKU1_2 ?_)
 refine wlr_succ ?_; intro KU1_3 hKU1_3
 refine wc_seq ?_; intro K13 hK13
 refine wc_region ?_
 refine wl_y (Y.as (y_lss rfl rfl) (congrArg Value.bool (decide_eq_true (by decide)))) rfl ?_
 refine wl_nil ?_
 refine wq_then_norm (hK13 ?_)
 refine wc_seq ?_; intro K14 hK14
 refine wc_true rfl rfl ?_
 refine wc_skip ?_
 refine wq_then_norm (hK14 ?_)
 refine wc_seq ?_; intro K15 hK15
 refine wc_block ?_
 refine wc_seq ?_; intro K16 hK16
 refine wc_region ?_
 refine wl_y (y_ixs1 rfl rfl Tryz.underlying199 (by kernel_rfl) (j := 2) rfl (by omega)) rfl ?_
 refine wl_y (y_load1 rfl Tryz.underlying161 rfl (B18.get (i := 2) rfl)) rfl ?_
 refine wl_y (y_assign rfl) rfl ?_
 refine wl_nil ?_
 refine wq_then_norm (hK16 ?_)
 refine wc_region ?_
 refine wl_y (y_move rfl) rfl ?_
 refine wl_y (y_move rfl) rfl ?_
 refine wl_y (y_nilp rfl) rfl ?_
 refine wl_y (y_load1 rfl Tryz.underlying23 rfl (B1.get (i := 3) rfl)) rfl ?_
 have yC := F.size; have qC := B1.lt; have tC := B2.lt
 refine wl_call Tryz.func107 rfl rfl rfl (bcloneR_any _ _ u.c _ _ KC.out (by omega)) rfl ?_
 rintro e wcC ⟨AC, cC, rfl, RC, ex⟩
 refine ⟨_, rfl, ?_⟩
 replace F := F.ext ex
 replace KA := KA.ext ex
 replace KB := KB.ext ex
 replace KC := KC.ext ex
 replace KD := KD.ext ex
 replace KE := KE.ext ex
 replace B2 := B2.ext ex
 replace B18 := B18.ext ex
 replace RA := RA.ext ex
 replace RB := RB.ext ex
 replace B1 := B1.ext ex
 skip
 refine wl_y (y_nilp rfl) rfl ?_
 refine wl_ef (ef_storeB (i := 3) rfl rfl rfl (by kernel_rfl) B1 (Nat.le_of_ble_eq_true rfl)) rfl ?_
 rintro _ wSC ⟨rfl, D, cg⟩
 have ex := Chs.one cg
 clear cg
 replace F := F.chs ex
 replace KA := KA.chs ex
 replace KB := KB.chs ex
 replace KC := KC.chs ex
 replace KD := KD.chs ex
 replace KE := KE.chs ex
 replace B2 := B2.chs ex
 replace B18 := B18.chs ex
 replace RA := RA.chs ex
 replace RB := RB.chs ex
 replace RC := RC.chs ex
 have B1 := D.congr (cs' := infV ⟨AA, gr.n, cA⟩ i.ctx.ep ⟨AB, tr.n, cB⟩ ⟨AC, u.n, cC⟩ tg i.frm sg) rfl; clear D
 refine wl_nil ?_
 refine wq_blk_norm ?_
 refine wq_then_norm (hK15 ?_)
 refine wc_region ?_
 refine wl_y (y_add rfl rfl (i64_ok (by omega) (by omega))) rfl ?_
 refine wl_y (y_move rfl) rfl ?_
 refine wl_nil ?_
 refine wq_then_norm (hKU1_3 ?_)
 refine wlr_succ ?_; intro KU1_4 hKU1_4
 refine wc_seq ?_; intro K17 hK17
 refine wc_region ?_
 refine wl_y (Y.as (y_lss rfl rfl) (congrArg Value.bool (decide_eq_true (by decide)))) rfl ?_
 refine wl_nil ?_
 refine wq_then_norm (hK17 ?_)
 refine wc_seq ?_; intro K18 hK18
 refine wc_true rfl rfl ?_
 refine wc_skip ?_
 refine wq_then_norm (hK18 ?_)
 refine wc_seq ?_; intro K19 hK19
 refine wc_block ?_
 refine wc_seq ?_; intro K20 hK20
 refine wc_region ?_
 refine wl_y (y_ixs1 rfl rfl Tryz.underlying199 (by kernel_rfl) (j := 3) rfl (by omega)) rfl ?_
 refine wl_y (y_load1 rfl Tryz.underlying161 rfl (B18.get (i := 3) rfl)) rfl ?_
 refine wl_y (y_assign rfl) rfl ?_
 refine wl_nil ?_
 refine wq_then_norm (hK20 ?_)
 refine wc_region ?_
 refine wl_y (y_move rfl) rfl ?_
 refine wl_y (y_move rfl) rfl ?_
 refine wl_y (y_nilp rfl) rfl ?_
 refine wl_y (y_load1 rfl Tryz.underlying23 rfl (B1.get (i := 4) rfl)) rfl ?_
 have yD := F.size; have qD := B1.lt; have tD := B2.lt
 refine wl_call Tryz.func107 rfl rfl rfl (bcloneR_any _ _ tg.c _ _ KD.out (by omega)) rfl ?_
 rintro e wcD ⟨AD, cD, rfl, RD, ex⟩
 refine ⟨_, rfl, ?_⟩
 replace F := F.ext ex
 replace KA := KA.ext ex
 replace KB := KB.ext ex
 replace KC := KC.ext ex
 replace KD := KD.ext ex
 replace KE := KE.ext ex
 replace B2 := B2.ext ex
 replace B18 := B18.ext ex
 replace RA := RA.ext ex
 replace RB := RB.ext ex
 replace RC := RC.ext ex
 replace B1 := B1.ext ex
 skip
 refine wl_y (y_nilp rfl) rfl ?_
 refine wl_ef (ef_storeB (i := 4) rfl rfl rfl (by kernel_rfl) B1 (Nat.le_of_ble_eq_true rfl)) rfl ?_
 rintro _ wSD ⟨rfl, D, cg⟩
 have ex := Chs.one cg
 clear cg
 replace F := F.chs ex
 replace KA := KA.chs ex
 replace KB := KB.chs ex
 replace KC := KC.chs ex
 replace KD := KD.chs ex
 replace KE := KE.chs ex
 replace B2 := B2.chs ex
 replace B18 := B18.chs ex
 replace RA := RA.chs ex
 replace RB := RB.chs ex
 replace RC := RC.chs ex
 replace RD := RD.chs ex
 have B1 := D.congr (cs' := infV ⟨AA, gr.n, cA⟩ i.ctx.ep ⟨AB, tr.n, cB⟩ ⟨AC, u.n, cC⟩ ⟨AD, tg.n, cD⟩ i.frm sg) rfl; clear D
 refine wl_nil ?_
 refine wq_blk_norm ?_
 refine wq_then_norm (hK19 ?_)
 refine wc_region ?_
 refine wl_y (y_add rfl rfl (i64_ok (by omega) (by omega))) rfl ?_
 refine wl_y (y_move rfl) rfl ?_
 refine wl_nil ?_
 refine wq_then_norm (hKU1_4 ?_)
 refine wlr_succ ?_; intro KU1_5 hKU1_5
 refine wc_seq ?_; intro K21 hK21
 refine wc_region ?_
 refine wl_y (Y.as (y_lss rfl rfl) (congrArg Value.bool (decide_eq_true (by decide)))) rfl ?_
 refine wl_nil ?_
 refine wq_then_norm (hK21 ?_)
 refine wc_seq ?_; intro K22 hK22
 refine wc_true rfl rfl ?_
 refine wc_skip ?_
 refine wq_then_norm (hK22 ?_)
 refine wc_seq ?_; intro K23 hK23
 refine wc_block ?_
 refine wc_seq ?_; intro K24 hK24
 refine wc_region ?_
 refine wl_y (y_ixs1 rfl rfl Tryz.underlying199 (by kernel_rfl) (j := 4) rfl (by omega)) rfl ?_
 refine wl_y (y_load1 rfl Tryz.underlying161 rfl (B18.get (i := 4) rfl)) rfl ?_
 refine wl_y (y_assign rfl) rfl ?_
 refine wl_nil ?_
 refine wq_then_norm (hK24 ?_)
 refine wc_region ?_
 refine wl_y (y_move rfl) rfl ?_
 refine wl_y (y_move rfl) rfl ?_
 refine wl_y (y_nilp rfl) rfl ?_
 refine wl_y (y_load1 rfl Tryz.underlying23 rfl (B1.get (i := 6) rfl)) rfl ?_
 have yE := F.size; have qE := B1.lt; have tE := B2.lt
 refine wl_call Tryz.func107 rfl rfl rfl (bcloneR_any _ _ sg.c _ _ KE.out (by omega)) rfl ?_
 rintro e wcE ⟨AE, cE, rfl, RE, ex⟩
 refine ⟨_, rfl, ?_⟩
 replace F := F.ext ex
 replace KA := KA.ext ex
 replace KB := KB.ext ex
 replace KC := KC.ext ex
 replace KD := KD.ext ex
 replace KE := KE.ext ex
 replace B2 := B2.ext ex
 replace B18 := B18.ext ex
 replace RA := RA.ext ex
 replace RB := RB.ext ex
 replace RC := RC.ext ex
 replace RD := RD.ext ex
 replace B1 := B1.ext ex
 skip
 refine wl_y (y_nilp rfl) rfl ?_
 refine wl_ef (ef_storeB (i := 6) rfl rfl rfl (by kernel_rfl) B1 (Nat.le_of_ble_eq_true rfl)) rfl ?_
 rintro _ wSE ⟨rfl, D, cg⟩
 have ex := Chs.one cg
 clear cg
 replace F := F.chs ex
 replace KA := KA.chs ex
 replace KB := KB.chs ex
 replace KC := KC.chs ex
 replace KD := KD.chs ex
 replace KE := KE.chs ex
 replace B2 := B2.chs ex
 replace B18 := B18.chs ex
 replace RA := RA.chs ex
 replace RB := RB.chs ex
 replace RC := RC.chs ex
 replace RD := RD.chs ex
 replace RE := RE.chs ex
 have B1 := D.congr (cs' := infV ⟨AA, gr.n, cA⟩ i.ctx.ep ⟨AB, tr.n, cB⟩ ⟨AC, u.n, cC⟩ ⟨AD, tg.n, cD⟩ i.frm ⟨AE, sg.n, cE⟩) rfl; clear D
 refine wl_nil ?_
 refine wq_blk_norm ?_
 refine wq_then_norm (hK23 ?_)
 refine wc_region ?_
 refine wl_y (y_add rfl rfl (i64_ok (by omega) (by omega))) rfl ?_
 refine wl_y (y_move rfl) rfl ?_
 refine wl_nil ?_
 refine wq_then_norm (hKU1_5 ?_)
 refine wlr_succ ?_; intro KU1_6 hKU1_6
 refine wc_seq ?_; intro K25 hK25
 refine wc_region ?_
 refine wl_y (Y.as (y_lss rfl rfl) (congrArg Value.bool (decide_eq_false (by decide)))) rfl ?_
 refine wl_nil ?_
 refine wq_then_norm (hK25 ?_)
 refine wc_seq ?_; intro K26 hK26
 refine wc_false rfl rfl ?_
 refine wc_exit ?_
 refine wq_then_exit ?_
 refine wq_then_exit ?_
 refine wq_blk_hit ?_
 refine wq_then_norm (hK3 ?_)
 refine wc_seq ?_; intro K27 hK27
 refine wc_region ?_
 refine wl_y (y_loadx (o := 0) (s := 7) rfl Tryz.underlying42 rfl (by kernel_rfl) B1 rfl) rfl ?_
 refine wl_ef (ef_storeP (o := 0) rfl rfl (by kernel_rfl) B2 (Nat.le_of_ble_eq_true rfl) (all_ones rfl)) rfl ?_
 rintro _ wS7_1 ⟨rfl, D, cg⟩
 have ex := Chs.one cg
 clear cg
 replace F := F.chs ex
 replace KA := KA.chs ex
 replace KB := KB.chs ex
 replace KC := KC.chs ex
 replace KD := KD.chs ex
 replace KE := KE.chs ex
 replace B18 := B18.chs ex
 replace RA := RA.chs ex
 replace RB := RB.chs ex
 replace RC := RC.chs ex
 replace RD := RD.chs ex
 replace RE := RE.chs ex
 replace B1 := B1.chs ex
 replace B2 := D; clear D
 refine wl_nil ?_
 refine wq_then_norm (hK27 ?_)
 refine wc_ret ?_
 refine hret rfl B2 rfl ?_
 exact ⟨_, rfl, ⟨_, _, _, _, _, rfl, he, hz, RA.lower yA, RB.lower yB, RC.lower yC, RD.lower yD, RE.lower yE⟩, (F.drop (by omega)).drop (by omega) |>.toExt (by simp)⟩
def labI : ByteArray := ⟨#[71, 114, 111, 117, 112, 73, 110, 102, 111, 84, 66, 83]⟩
theorem labI_size : labI.size ≤ 1000 := by decide
def Inf.put (i : Inf) (s : List UInt8) : Inf := ⟨i.ctx, i.tag, i.frm, s⟩
def signI (i : Inf) (seed : List UInt8) : Inf × Nat :=
 if ¬ okInf (i.put (List.replicate 64 0)) then (Inf.zero, 3)
 else if (sigE seed (Sg.text labI.data.toList (infT i))).2 ≠ 0 then (Inf.zero, (sigE seed (Sg.text labI.data.toList (infT i))).2)
 else (i.put (sigE seed (Sg.text labI.data.toList (infT i))).1, 0)
theorem sigE_none {s t ys : List UInt8} {y : Nat} (h : sigE s t = (ys, y)) (hy : 0 < ys.length) : ys.length = 64 := by
 unfold sigE at h
 split at h
 ·injection h with h _; rw [← h]; exact Sg.sig_length _ _
 ·injection h with h _; rw [← h] at hy; exact absurd hy (Nat.lt_irrefl 0)
theorem InfAc.zero (w : World) : InfAc w zInfV Inf.zero := InfAc.mk (g := nilH) (t := nilH) (u := nilH) (tg := nilH) (sg := nilH) ⟨nilH, nilH, nilH, nilH, nilH, rfl, (by decide), (by decide), Bs.nil _ _, Bs.nil _ _, Bs.nil _ _, Bs.nil _ _, Bs.nil _ _⟩ (Nat.le_refl _)
set_option maxHeartbeats 1000000 in
theorem wsign_any {cs : Array Value} {i : Inf} {A : Option Addr} {n c : Nat} {seed : List UInt8} (w : World) (H : InfAt w cs i) (hf : i.Fit) (hs : i.ctx.Small) (ht : i.tag.length ≤ 1000) (HA : Bs w A n seed) (hn : n ≤ 100) :
  Calls Tryz.prog 27 #[.agg cs, .slice A n c] w fun e w' => ∃ cs', e = .returned (.tuple #[.agg cs', .int .u8 (((signI i seed).2 : Nat) : Int)]) ∧ InfAc w' cs' (signI i seed).1 ∧ Ext w w' := by
 have HI := H
 obtain ⟨gr, tr, u, tg, sg, rfl, he, hz, _⟩ := H
 obtain ⟨ys, y, hE⟩ : ∃ ys y, sigE seed (Sg.text labI.data.toList (infT i)) = (ys, y) := ⟨_, _, rfl⟩
 have F := Chs.refl [] w
 refine vc_enterct (s := 7) 33 Tryz.func27 rfl rfl rfl Tryz.underlying42 rfl (by kernel_rfl) rfl ?_
 intro Q hret
 refine wc_seq ?_; intro K1 hK1
 refine wc_region ?_
 refine wl_ef (ef_box rfl rfl) rfl ?_
 rintro _ wB2 ⟨gB2, rfl, B2, hgB2, ex⟩
 have lB2 := B2.lt; have zB2 := ex.size
 replace F := F.grow ex hgB2
 refine wl_ef (ef_alloc (Z := #[.slice none 0 0, .int .u64 0, .slice none 0 0, .slice none 0 0, .slice none 0 0, .int .i64 0, .slice none 0 0]) (by kernel_rfl)) rfl ?_
 rintro _ wB4 ⟨gB4, rfl, B4, hgB4, ex⟩
 have lB4 := B4.lt; have zB4 := ex.size
 have nB2_4 : gB2 < gB4 := Nat.lt_of_lt_of_le B2.lt hgB4
 replace F := F.grow ex hgB4
 replace B2 := B2.grow ex hgB4
 refine wl_y (y_assign rfl) rfl ?_
 refine wl_nil ?_
 refine wq_then_norm (hK1 ?_)
 refine wc_seq ?_; intro K2 hK2
 refine wc_region ?_
 refine wl_y (y_loadx (o := 0) (s := 7) rfl Tryz.underlying42 rfl (by kernel_rfl) B2 rfl) rfl ?_
 have X1 := F.toExt (by simp; omega); have z1 := F.size
 refine wl_call Tryz.func72 rfl rfl rfl (wcopied_any _ (HI.ext X1) hf) rfl ?_
 rintro e w2 ⟨cs2, rfl, LR, ex⟩
 refine ⟨_, rfl, ?_⟩
 replace F := F.ext ex
 replace B2 := B2.ext ex
 replace B4 := B4.ext ex
 obtain ⟨ia, ib, ic, id, ie, rfl, _, _, ra, rb, rc, rd, _⟩ := LR
 refine wl_ef (ef_storeP (o := 0) rfl rfl (by kernel_rfl) B2 (Nat.le_of_ble_eq_true rfl) (all_ones rfl)) rfl ?_
 rintro _ wS1_2 ⟨rfl, D, cg⟩
 have ex := Chs.one cg
 clear cg
 replace F := F.chs ex
 replace B4 := B4.chs ex
 replace ra := ra.chs ex
 replace rb := rb.chs ex
 replace rc := rc.chs ex
 replace rd := rd.chs ex
 replace B2 := D; clear D
 replace B2 := B2.congr (cs' := infV ia i.ctx.ep ib ic id i.frm ie) rfl
 refine wl_nil ?_
 refine wq_then_norm (hK2 ?_)
 refine wc_seq ?_; intro K3 hK3
 refine wc_region ?_
 have z2 := F.size; have m2 := B2.lt; have n2 := B4.lt
 refine wl_ef (ef_make (n := 64) (z := .int .u8 0) (bytes := 1) rfl rfl Tryz.underlying23 (by kernel_rfl) rfl rfl rfl rfl (by omega) (by omega)) rfl ?_
 rintro _ w3 ⟨g5, rfl, B5, hg5, ex⟩
 replace F := F.ext ex
 replace B2 := B2.ext ex
 replace B4 := B4.ext ex
 replace ra := ra.ext ex
 replace rb := rb.ext ex
 replace rc := rc.ext ex
 replace rd := rd.ext ex
 have J5 : Kp w3.heap.size [gB4, gB2] (fun w => Bs w (some ⟨g5, 0, none⟩) 64 (List.replicate 64 0)) w3 := Kp.bs (zeros64 B5 (by rfl)) (fun _ g hg o e => by injection e with e; injection e with e _ _; simp at hg; omega)
 refine wl_y (y_fieldAddr (o := 6) (s := 1) (off := 0) (o' := 6) rfl Tryz.underlying42 rfl (by kernel_rfl) rfl rfl) rfl ?_
 refine wl_ef (ef_storeB (i := 6) rfl rfl rfl (by kernel_rfl) B2 (Nat.le_of_ble_eq_true rfl)) rfl ?_
 rintro _ wS2_2 ⟨rfl, D, cg⟩
 have ex := Chs.one cg
 clear cg
 replace F := F.chs ex
 replace B4 := B4.chs ex
 replace ra := ra.chs ex
 replace rb := rb.chs ex
 replace rc := rc.chs ex
 replace rd := rd.chs ex
 replace J5 := J5.chs ex
 replace B2 := D; clear D
 replace B2 := B2.congr (cs' := infV ia i.ctx.ep ib ic id i.frm ⟨some ⟨g5, 0, none⟩, 64, 64⟩) rfl
 refine wl_nil ?_
 refine wq_then_norm (hK3 ?_)
 refine wc_seq ?_; intro K4 hK4
 refine wc_region ?_
 refine wl_y (y_loadx (o := 0) (s := 7) rfl Tryz.underlying42 rfl (by kernel_rfl) B2 rfl) rfl ?_
 refine wl_call Tryz.func69 rfl rfl rfl (InfoText_any (i := i.put (List.replicate 64 0)) _ ⟨ia, ib, ic, id, ⟨some ⟨g5, 0, none⟩, 64, 64⟩, rfl, he, hz, ra.bs, rb.bs, rc.bs, rd.bs, J5.out⟩ hs ht) rfl ?_
 rintro e w4 ⟨A6, k6, c6, z6, rfl, T6, hk6, hk6', ex⟩
 refine ⟨_, rfl, ?_⟩
 replace F := F.ext ex
 replace B2 := B2.ext ex
 replace B4 := B4.ext ex
 replace ra := ra.ext ex
 replace rb := rb.ext ex
 replace rc := rc.ext ex
 replace rd := rd.ext ex
 replace J5 := J5.ext ex
 skip
 refine wl_y (y_move rfl) rfl ?_
 refine wl_y (y_extract rfl rfl) rfl ?_
 refine wl_y (y_extract rfl rfl) rfl ?_
 refine wl_y (y_assign rfl) rfl ?_
 refine wl_y (y_assign rfl) rfl ?_
 refine wl_nil ?_
 refine wq_then_norm (hK4 ?_)
 refine wc_seq ?_; intro K5 hK5
 refine wc_seq ?_; intro K6 hK6
 refine wc_region ?_
 refine wl_y (y_move rfl) rfl ?_
 refine wl_y (y_neq rfl rfl) rfl ?_
 refine wl_nil ?_
 refine wq_then_norm (hK6 ?_)
 refine wc_dec rfl (fun hc1 => ?_) (fun hc1 => ?_)
 ·skip
  refine wc_seq ?_; intro K7 hK7
  have hno : ¬ okInf (i.put (List.replicate 64 0)) := fun h => by have := (T6.1 h).1; omega
  have hz3 : z6 = 3 := (T6.2 hno).1
  have e1 : signI i seed = (Inf.zero, 3) := by unfold signI; rw [if_pos hno]
  refine wc_region ?_
  refine wl_y (y_build rfl (cells := zInfV) (by kernel_rfl)) rfl ?_
  refine wl_y (y_move rfl) rfl ?_
  refine wl_ef (ef_storeP (o := 0) rfl rfl (by kernel_rfl) B4 (Nat.le_of_ble_eq_true rfl) (all_ones rfl)) rfl ?_
  rintro _ wS5_2 ⟨rfl, D, cg⟩
  have ex := Chs.one cg
  clear cg
  replace F := F.chs ex
  replace B2 := B2.chs ex
  replace ra := ra.chs ex
  replace rb := rb.chs ex
  replace rc := rc.chs ex
  replace rd := rd.chs ex
  replace J5 := J5.chs ex
  replace B4 := D; clear D
  replace B4 := B4.congr (cs' := zInfV) rfl
  refine wl_y (y_assign rfl) rfl ?_
  refine wl_nil ?_
  refine wq_then_norm (hK7 ?_)
  refine wc_ret ?_
  refine wq_then_ret ?_
  refine hret rfl rfl B4 rfl ?_
  subst hz3; rw [e1]; exact ⟨zInfV, rfl, InfAc.zero _, F.toExt (by simp; omega)⟩
 ·skip
  refine wc_skip ?_
  refine wq_then_norm (hK5 ?_)
  refine wc_seq ?_; intro K8 hK8
  refine wc_seq ?_; intro K9 hK9
  have okw : okInf (i.put (List.replicate 64 0)) := Classical.byContradiction fun h => by have := (T6.2 h).1; omega
  have H6 : Bs _ A6 k6 (infT i) := (T6.1 okw).2
  refine wc_region ?_
  refine wl_y (y_move rfl) rfl ?_
  refine wl_y (y_move rfl) rfl ?_
  have X6 := F.toExt (by simp; omega); have z6' := F.size; have m6 := B2.lt; have n6 := B4.lt
  refine wl_call Tryz.func29 rfl rfl rfl (label_at _ (HA.ext X6) H6 (by omega) labI_size (by omega) hE) rfl ?_
  rintro e w5 ⟨A12, k12, c12, rfl, H12, hc12, ex⟩
  refine ⟨_, rfl, ?_⟩
  replace F := F.ext ex
  replace B2 := B2.ext ex
  replace B4 := B4.ext ex
  replace ra := ra.ext ex
  replace rb := rb.ext ex
  replace rc := rc.ext ex
  replace rd := rd.ext ex
  replace J5 := J5.ext ex
  have J12 : Kp w5.heap.size [gB4, gB2] (fun w => Bs w A12 k12 ys) w5 := Kp.bs H12 fun h0 g hg o e => by
   have h64 : k12 = 64 := by rw [← H12.1]; exact sigE_none hE (by rw [H12.1]; exact h0)
   rcases List.mem_cons.1 hg with rfl | hg
   ·exact H12.notin B4 (show (7 : Nat) < _ by omega) o e
   ·obtain rfl := List.mem_singleton.1 hg
    exact H12.notin B2 (show (7 : Nat) < _ by omega) o e
  skip 
  refine wl_y (y_move rfl) rfl ?_
  refine wl_y (y_extract rfl rfl) rfl ?_
  refine wl_y (y_extract rfl rfl) rfl ?_
  refine wl_y (y_fieldAddr (o := 6) (s := 1) (off := 0) (o' := 6) rfl Tryz.underlying42 rfl (by kernel_rfl) rfl rfl) rfl ?_
  refine wl_ef (ef_storeB (i := 6) rfl rfl rfl (by kernel_rfl) B2 (Nat.le_of_ble_eq_true rfl)) rfl ?_
  rintro _ wS6_7 ⟨rfl, D, cg⟩
  have ex := Chs.one cg
  clear cg
  replace F := F.chs ex
  replace B4 := B4.chs ex
  replace ra := ra.chs ex
  replace rb := rb.chs ex
  replace rc := rc.chs ex
  replace rd := rd.chs ex
  replace J5 := J5.chs ex
  replace J12 := J12.chs ex
  replace B2 := D; clear D
  replace B2 := B2.congr (cs' := infV ia i.ctx.ep ib ic id i.frm ⟨A12, k12, c12⟩) rfl
  refine wl_y (y_assign rfl) rfl ?_
  refine wl_nil ?_
  refine wq_then_norm (hK9 ?_)
  refine wc_seq ?_; intro K10 hK10
  refine wc_region ?_
  refine wl_y (y_move rfl) rfl ?_
  refine wl_y (y_neq rfl rfl) rfl ?_
  refine wl_nil ?_
  refine wq_then_norm (hK10 ?_)
  refine wc_dec rfl (fun hc2 => ?_) (fun hc2 => ?_)
  ·skip
   refine wc_seq ?_; intro K11 hK11
   have e1 : signI i seed = (Inf.zero, y) := by unfold signI; rw [hE, if_neg (fun h => h okw), if_pos (show y ≠ 0 by omega)]
   refine wc_region ?_
   refine wl_y (y_build rfl (cells := zInfV) (by kernel_rfl)) rfl ?_
   refine wl_y (y_move rfl) rfl ?_
   refine wl_ef (ef_storeP (o := 0) rfl rfl (by kernel_rfl) B4 (Nat.le_of_ble_eq_true rfl) (all_ones rfl)) rfl ?_
   rintro _ wS8_2 ⟨rfl, D, cg⟩
   have ex := Chs.one cg
   clear cg
   replace F := F.chs ex
   replace B2 := B2.chs ex
   replace ra := ra.chs ex
   replace rb := rb.chs ex
   replace rc := rc.chs ex
   replace rd := rd.chs ex
   replace J5 := J5.chs ex
   replace J12 := J12.chs ex
   replace B4 := D; clear D
   replace B4 := B4.congr (cs' := zInfV) rfl
   refine wl_y (y_assign rfl) rfl ?_
   refine wl_nil ?_
   refine wq_then_norm (hK11 ?_)
   refine wc_ret ?_
   refine wq_then_ret ?_
   refine hret rfl rfl B4 rfl ?_
   rw [e1]; exact ⟨zInfV, rfl, InfAc.zero _, F.toExt (by simp; omega)⟩
  ·skip
   refine wc_skip ?_
   refine wq_then_norm (hK8 ?_)
   refine wc_seq ?_; intro K12 hK12
   have e1 : signI i seed = (i.put ys, 0) := by unfold signI; rw [hE, if_neg (fun h => h okw), if_neg (show ¬ y ≠ 0 by omega)]
   refine wc_region ?_
   refine wl_y (y_loadx (o := 0) (s := 7) rfl Tryz.underlying42 rfl (by kernel_rfl) B2 rfl) rfl ?_
   refine wl_ef (ef_storeP (o := 0) rfl rfl (by kernel_rfl) B4 (Nat.le_of_ble_eq_true rfl) (all_ones rfl)) rfl ?_
   rintro _ wS9_1 ⟨rfl, D, cg⟩
   have ex := Chs.one cg
   clear cg
   replace F := F.chs ex
   replace B2 := B2.chs ex
   replace ra := ra.chs ex
   replace rb := rb.chs ex
   replace rc := rc.chs ex
   replace rd := rd.chs ex
   replace J5 := J5.chs ex
   replace J12 := J12.chs ex
   replace B4 := D; clear D
   replace B4 := B4.congr (cs' := infV ia i.ctx.ep ib ic id i.frm ⟨A12, k12, c12⟩) rfl
   refine wl_y (y_assign rfl) rfl ?_
   refine wl_nil ?_
   refine wq_then_norm (hK12 ?_)
   refine wc_ret ?_
   refine hret rfl rfl B4 rfl ?_
   rw [e1]; exact ⟨_, rfl, InfAc.mk (sg := ⟨A12, k12, c12⟩) ⟨ia, ib, ic, id, ⟨A12, k12, c12⟩, rfl, he, hz, ra.bs, rb.bs, rc.bs, rd.bs, J12.out⟩ hc12, F.toExt (by simp; omega)⟩
def signedI (i : Inf) (key : List UInt8) : Bool := decide (okInf i) && Sg.holds key (Sg.text labI.data.toList (infT i)) i.sig
theorem wsigned_any {cs : Array Value} {i : Inf} {A : Option Addr} {n c : Nat} {key : List UInt8} (w : World) (H : InfAc w cs i) (hs : i.ctx.Small) (ht : i.tag.length ≤ 1000) (h6 : i.sig.length ≤ 1000) (HA : Bs w A n key) (hn : n ≤ 1000) :
  Calls Tryz.prog 25 #[.agg cs, .slice A n c] w fun e w' => e = .returned (.bool (signedI i key)) ∧ Ext w w' := by
 have HI := H
 obtain ⟨gr, tr, u, tg, sg, rfl, he, hz, _, _, _, _, k⟩ := H.1
 have hk := HI.cap
 have n5 := k.1
 have E := Ext.refl w
 refine vc_enter1 21 Tryz.func25 rfl rfl rfl rfl ?_
 intro Q hret
 refine wc_seq ?_; intro K1 hK1
 refine wc_region ?_
 refine wl_ef (ef_box rfl rfl) rfl ?_
 rintro _ wB2 ⟨gB2, rfl, B2, hgB2, ex⟩
 have lB2 := B2.lt; have zB2 := ex.size
 replace E := E.ext ex
 refine wl_y (y_assign rfl) rfl ?_
 refine wl_nil ?_
 refine wq_then_norm (hK1 ?_)
 refine wc_seq ?_; intro K2 hK2
 refine wc_region ?_
 refine wl_y (y_loadx (o := 0) (s := 7) rfl Tryz.underlying42 rfl (by kernel_rfl) B2 rfl) rfl ?_
 refine wl_call Tryz.func69 rfl rfl rfl (InfoText_any (i := i) _ (HI.at.ext E) hs ht) rfl ?_
 rintro e w4 ⟨A6, k6, c6, z6, rfl, T6, hk6, hk6', ex⟩
 refine ⟨_, rfl, ?_⟩
 replace E := E.ext ex
 replace B2 := B2.ext ex
 skip
 refine wl_y (y_move rfl) rfl ?_
 refine wl_y (y_extract rfl rfl) rfl ?_
 refine wl_y (y_extract rfl rfl) rfl ?_
 refine wl_y (y_assign rfl) rfl ?_
 refine wl_y (y_assign rfl) rfl ?_
 refine wl_nil ?_
 refine wq_then_norm (hK2 ?_)
 refine wc_seq ?_; intro K3 hK3
 refine wc_region ?_
 refine wl_y (y_move rfl) rfl ?_
 refine wl_yask (y_eql rfl rfl) rfl (fun q1 => ?_) (fun q1 => ?_)
 ·skip
  refine wl_y (y_move rfl) rfl ?_
  refine wl_gy 14 rfl rfl (y_move rfl) rfl ?_
  refine wl_gy 14 rfl rfl (y_move rfl) rfl ?_
  refine wl_gy 14 rfl rfl (y_fieldAddr (o := 6) (s := 1) (off := 0) (o' := 6) rfl Tryz.underlying42 rfl (by kernel_rfl) rfl rfl) rfl ?_
  refine wl_gy 14 rfl rfl (y_load1 rfl Tryz.underlying23 rfl (B2.get (i := 6) rfl)) rfl ?_
  have okw : okInf i := Classical.byContradiction fun h => by have := (T6.2 h).1; omega
  have H6 : Bs _ A6 k6 (infT i) := (T6.1 okw).2
  refine wl_gcall 14 rfl rfl Tryz.func26 rfl rfl rfl (Check_any A n c key labI A6 k6 c6 (infT i) sg.A sg.n sg.c i.sig _ (HA.ext E) H6 (Bs.ext k E) (by omega) labI_size (by omega) (by omega) hk) rfl ?_
  rintro e w5 ⟨rfl, ex⟩
  refine ⟨_, rfl, ?_⟩
  replace E := E.ext ex
  replace B2 := B2.ext ex
  replace T6 := T6.ext ex
  skip
  refine wl_y (y_pickt rfl rfl) rfl ?_
  refine wl_y (y_assign rfl) rfl ?_
  refine wl_nil ?_
  refine wq_then_norm (hK3 ?_)
  refine wc_ret ?_
  refine hret rfl ?_
  exact ⟨by unfold signedI; rw [decide_eq_true okw, Bool.true_and], E⟩
 ·skip
  refine wl_y (y_move rfl) rfl ?_
  refine wl_gno 14 rfl rfl rfl rfl ?_
  refine wl_gno 14 rfl rfl rfl rfl ?_
  refine wl_gno 14 rfl rfl rfl rfl ?_
  refine wl_gno 14 rfl rfl rfl rfl ?_
  refine wl_gno 14 rfl rfl rfl rfl ?_
  refine wl_y (y_pickf rfl rfl) rfl ?_
  refine wl_y (y_assign rfl) rfl ?_
  refine wl_nil ?_
  refine wq_then_norm (hK3 ?_)
  refine wc_ret ?_
  refine hret rfl ?_
  exact ⟨by unfold signedI; rw [decide_eq_false (fun h => q1 (by have := (T6.1 h).1; omega)), Bool.false_and], E⟩
end Go.Proofs.YtjllhimhiekchaaGreat
