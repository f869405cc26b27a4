/- sched's transcripts, tags, locks and exports, and the reference's: what they hand back; the laws SchedTags, SchedExports. -/
import Derived.Test.YtgfafidlkldeaaaGreatNt
import Derived.Test.YtgfafidlkldeaaaGreatVi
import Derived.Test.YtgfafidlkldeaaaGreatAu
import Derived.Test.YtgfafidlkldeaaaGreatWireR
import Derived.Lib.AppendStr
import Derived.Test.YtgfafidlkldeaaaGreatDhA
import Derived.Test.YtgfafidlkldeaaaGreatFieldQ
import Derived.Test.YtgfafidlkldeaaaGreatSl
import Derived.Test.YtgfafidlkldeaaaGreatMacB
set_option linter.unusedVariables false
set_option linter.unusedSimpArgs false
set_option maxHeartbeats 4000000
set_option maxRecDepth 4000
namespace Go.Proofs.YtgfafidlkldeaaaGreat
open Go.RowKit Tryz
attribute [local irreducible] Ef WC WF WG WJ WK WL WM WN WQ WR Y cu db iC lW rQ
variable {cs ds : Array Value} {sg tg u : Hd} {z : Int} {gs key seed ys : Lb} {l l' : List (List UInt8)} {ss : List ByteArray} {N c ep g i m n y : Nat} {A : Oa} {t : TypeId} {w w' : aa9} {x : fK}
section
open Wire Nd M20
def Xg (base : Nat) (w : aa9) (cs : Array Value) (x : fK) : Prop := mV (fun h xs => Row w base 5 h.A h.n h.c (xs.map bv)) cs x
def jF (w : aa9) (cs : Array Value) (x : fK) : Prop := eP w cs x ∧ ∀ A n c, cs[6]? = some (.slice A n c) → n ≤ c
theorem jF.mk {g t : Hd} (h : eP w (kA g ep t u tg z sg) x) (hc : sg.n ≤ sg.c) : jF w (kA g ep t u tg z sg) x :=
 ⟨h, fun A n c e => by
  have e' : (some (Value.slice sg.A sg.n sg.c)) = some (.slice A n c) := e;injection e' with e'
  injection e' with _ e2 e3
  rw [← e2, ← e3]; exact hc⟩
theorem jF.cap {g t : Hd} (h : jF w (kA g ep t u tg z sg) x) : sg.n ≤ sg.c := h.2 _ _ _ rfl
theorem jF.at (h : jF w cs x) : eP w cs x := h.1
theorem y6 {i : fK} (w : aa9) (H : eP w cs i) (hf : i.Fit) :
  Ct 61 #[.agg cs] w fun e w' => ∃ cs', e = .returned (.agg cs') ∧ Xg w.heap.size w' cs' i ∧ Ext w w' := by
 obtain ⟨gr, tr, u, tg, sg, rfl, he, hz, a, b, c, d, k⟩ := H;have n1 := a.1; have n2 := b.1; have n3 := c.1; have n4 := d.1; have n5 := k.1;obtain ⟨f1, f2, f3, f4, f5⟩ := hf;have F := aI.refl [] w;have KA : Kp w.heap.size [] (fun w => Bs w gr.A gr.n i.ctx.grp) w := Kp.bs a (by simp);have KB : Kp w.heap.size [] (fun w => Bs w tr.A tr.n i.ctx.tree) w := Kp.bs b (by simp);have KC : Kp w.heap.size [] (fun w => Bs w u.A u.n i.ctx.trans) w := Kp.bs c (by simp);have KD : Kp w.heap.size [] (fun w => Bs w tg.A tg.n i.tag) w := Kp.bs d (by simp);have KE : Kp w.heap.size [] (fun w => Bs w sg.A sg.n i.sig) w := Kp.bs k (by simp);refine aH (s := 7) 32 func61 rfl rfl rfl underlying42 rfl Kr rfl ?_;intro _ aa4;refine aU ?_;intro _ Zh B1 YW ex;have Zj := ex.size;replace F := F.grow ex YW;replace KA := KA.grow ex YW;replace KB := KB.grow ex YW;replace KC := KC.grow ex YW;replace KD := KD.grow ex YW;replace KE := KE.grow ex YW;refine aU ?_;intro _ Zi B2 YU ex;have Za : Zh < Zi := Nat.lt_of_lt_of_le B1.lt YU;replace F := F.grow ex YU;replace KA := KA.grow ex YU;replace KB := KB.grow ex YU;replace KC := KC.grow ex YU;replace KD := KD.grow ex YU;replace KE := KE.grow ex YU;replace B1 := B1.grow ex YU;refine aU ?_;refine aD Kr 14 rfl ?_; intro Zk ex Zl;obtain ⟨F,KA,KB,KC,KD,KE,B1,B2⟩ := GC ex F KA KB KC KD KE B1 B2;refine zm [0, 1, 2, 3, 4, 5, 6, 7, 8, 9, 10, 13] ?_;have q0 := B1.lt;refine aR 11 Kr ?_; refine bE rfl (aF (z := .pointer none) Tn.u Kr rfl rfl rfl rfl rfl) rfl ?_;rintro _ _ ⟨_, rfl, YV, _, ex⟩;refine ⟨.inr ex, ?_⟩;obtain ⟨F,KA,KB,KC,KD,KE,B1,B2⟩ := GC ex F KA KB KC KD KE B1 B2;refine zm [12] ?_;refine qF 6 ?_; refine fF ?_; intro Zb YX;refine au 13 ?_;refine ak (aC rfl rfl Tn.u Kr (j := 0) rfl Om) ?_;refine aU ?_;have yA := F.size; have qA := B1.lt; have tA := B2.lt;refine aB func100 rfl (gl _ _ gr.c _ _ KA.out Om) ?_;rintro e _ ⟨AA, cA, rfl, RA, ex⟩;obtain ⟨F,KB,KC,KD,KE,B1,B2,YV⟩ := GC ex F KB KC KD KE B1 B2 YV;refine aU ?_;intro _ D cg;have ex := aI.one cg;clear cg;obtain ⟨F,KB,KC,KD,KE,B2,YV,RA⟩ := zO ex F KB KC KD KE B2 YV RA;have B1 := D.congr (cs' := kA ⟨AA, gr.n, cA⟩ i.ctx.ep tr u tg i.frm sg) rfl; clear D;refine au 7 ?_;refine ae (YX ?_);refine fF ?_; intro Zc YY;refine au 13 ?_;refine ak (aC rfl rfl Tn.u Kr (j := 1) rfl Om) ?_;refine aU ?_;have yB := F.size; have qB := B1.lt; have tB := B2.lt;refine aB func100 rfl (gl _ _ tr.c _ _ KB.out Om) ?_;rintro e _ ⟨AB, cB, rfl, RB, ex⟩;obtain ⟨F,KC,KD,KE,B2,YV,RA,B1⟩ := GC ex F KC KD KE B2 YV RA B1;refine aU ?_;intro _ D cg;have ex := aI.one cg;clear cg;obtain ⟨F,KC,KD,KE,B2,YV,RA,RB⟩ := zO ex F KC KD KE B2 YV RA RB;have B1 := D.congr (cs' := kA ⟨AA, gr.n, cA⟩ i.ctx.ep ⟨AB, tr.n, cB⟩ u tg i.frm sg) rfl; clear D;refine au 7 ?_;refine ae (YY ?_);refine fF ?_; intro Zd YZ;refine au 13 ?_;refine ak (aC rfl rfl Tn.u Kr (j := 2) rfl Om) ?_;refine aU ?_;have yC := F.size; have qC := B1.lt; have tC := B2.lt;refine aB func100 rfl (gl _ _ u.c _ _ KC.out Om) ?_;rintro e _ ⟨AC, cC, rfl, RC, ex⟩;obtain ⟨F,KD,KE,B2,YV,RA,RB,B1⟩ := GC ex F KD KE B2 YV RA RB B1;refine aU ?_;intro _ D cg;have ex := aI.one cg;clear cg;obtain ⟨F,KD,KE,B2,YV,RA,RB,RC⟩ := zO ex F KD KE B2 YV RA RB RC;have B1 := D.congr (cs' := kA ⟨AA, gr.n, cA⟩ i.ctx.ep ⟨AB, tr.n, cB⟩ ⟨AC, u.n, cC⟩ tg i.frm sg) rfl; clear D;refine au 7 ?_;refine ae (YZ ?_);refine fF ?_; intro Ze Y0;refine au 13 ?_;refine ak (aC rfl rfl Tn.u Kr (j := 3) rfl Om) ?_;refine aU ?_;have yD := F.size; have qD := B1.lt; have tD := B2.lt;refine aB func100 rfl (gl _ _ tg.c _ _ KD.out Om) ?_;rintro e _ ⟨AD, cD, rfl, RD, ex⟩;obtain ⟨F,KE,B2,YV,RA,RB,RC,B1⟩ := GC ex F KE B2 YV RA RB RC B1;refine aU ?_;intro _ D cg;have ex := aI.one cg;clear cg;obtain ⟨F,KE,B2,YV,RA,RB,RC,RD⟩ := zO ex F KE B2 YV RA RB RC RD;have B1 := D.congr (cs' := kA ⟨AA, gr.n, cA⟩ i.ctx.ep ⟨AB, tr.n, cB⟩ ⟨AC, u.n, cC⟩ ⟨AD, tg.n, cD⟩ i.frm sg) rfl; clear D;refine au 7 ?_;refine ae (Y0 ?_);refine fF ?_; intro Zf Y2;refine au 13 ?_;refine ak (aC rfl rfl Tn.u Kr (j := 4) rfl Om) ?_;refine aU ?_;have yE := F.size; have qE := B1.lt; have tE := B2.lt;refine aB func100 rfl (gl _ _ sg.c _ _ KE.out Om) ?_;rintro e _ ⟨AE, cE, rfl, RE, ex⟩;obtain ⟨F,B2,RA,RB,RC,RD,B1⟩ := iW ex F B2 RA RB RC RD B1;refine aU ?_;intro _ D cg;have ex := aI.one cg;clear cg;obtain ⟨F,B2,RA,RB,RC,RD,RE⟩ := Jy ex F B2 RA RB RC RD RE;have B1 := D.congr (cs' := kA ⟨AA, gr.n, cA⟩ i.ctx.ep ⟨AB, tr.n, cB⟩ ⟨AC, u.n, cC⟩ ⟨AD, tg.n, cD⟩ i.frm ⟨AE, sg.n, cE⟩) rfl; clear D;refine au 7 ?_;refine ae (Y2 ?_);refine fF ?_; intro Zg Y3;refine aU ?_;intro _ D cg;have ex := aI.one cg;clear cg;obtain ⟨F,RA,RB,RC,RD,RE⟩ := mg ex F RA RB RC RD RE;replace B2 := D; clear D;refine aU ?_;exact aa4 rfl B2 rfl ⟨_, rfl, ⟨_, _, _, _, _, rfl, he, hz, RA.lower yA, RB.lower yB, RC.lower yC, RD.lower yD, RE.lower yE⟩, (F.drop Om).drop Om |>.bF (by simp)⟩
def th : ByteArray := ⟨#[71, 114, 111, 117, 112, 73, 110, 102, 111, 84, 66, 83]⟩
theorem wJ : th.size ≤ 1000 := by decide
def fK.put (i : fK) (s : Lb) : fK := ⟨i.ctx, i.tag, i.frm, s⟩
def nP (i : fK) (seed : Lb) : fK × Nat :=
 if ¬ dk (i.put (List.replicate 64 0)) then (fK.zero, 3)
 else if (gY seed (Sg.text th.data.toList (jX i))).2 ≠ 0 then (fK.zero, (gY seed (Sg.text th.data.toList (jX i))).2)
 else (i.put (gY seed (Sg.text th.data.toList (jX i))).1, 0)
theorem Ii {s t : Lb} (h : gY s t = (ys, y)) (hy : 0 < ys.length) : ys.length = 64 := by
 unfold gY at h;split at h
 ·injection h with h _; rw [← h]; exact Sg.fQ _ _
 injection h with h _; rw [← h] at hy; exact absurd hy (Nat.lt_irrefl 0)
theorem jF.zero (w : aa9) : jF w ku fK.zero := jF.mk (g := ar) (t := ar) (u := ar) (tg := ar) (sg := ar) ⟨ar, ar, ar, ar, ar, rfl, (by decide), (by decide), Bs.nil _ _, Bs.nil _ _, Bs.nil _ _, Bs.nil _ _, Bs.nil _ _⟩ (Nat.le_refl _)
theorem G0 {i : fK} (w : aa9) (H : eP w cs i) (hf : i.Fit) (hs : i.ctx.Small) (ht : i.tag.length ≤ 1000) (HA : Bs w A n seed) (hn : n ≤ 100) :
  Ct 23 #[.agg cs, .slice A n c] w fun e w' => ∃ cs', e = .returned (.tuple #[.agg cs', .int .u8 (((nP i seed).2 : Nat) : Int)]) ∧ jF w' cs' (nP i seed).1 ∧ Ext w w' := by
 have HI := H;obtain ⟨gr, tr, u, tg, sg, rfl, he, hz, _⟩ := H
 obtain ⟨ys, y, hE⟩ : ∃ ys y, gY seed (Sg.text th.data.toList (jX i)) = (ys, y) := ⟨_, _, rfl⟩
 have F := aI.refl [] w;refine cF (s := 7) 33 func23 rfl rfl rfl underlying42 rfl Kr rfl ?_;intro _ aa4;refine aU ?_;intro _ Y0 B2 Y2 ex;have Zf := B2.lt; have Zg := ex.size;replace F := F.grow ex Y2;refine aU ?_;intro _ Y3 B4 YU ex;have Zh := B4.lt;have Zb : Y0 < Y3 := Nat.lt_of_lt_of_le B2.lt YU;replace F := F.grow ex YU;replace B2 := B2.grow ex YU;refine aU ?_;have X1 := F.bF So;refine aB func61 rfl (y6 _ (HI.ext X1) hf) ?_;rintro e _ ⟨_, rfl, LR, ex⟩;obtain ⟨F,B2,B4⟩ := bh ex F B2 B4;obtain ⟨ia, ib, ic, id, ie, rfl, _, _, ra, rb, rc, rd, _⟩ := LR;refine aU ?_;intro _ D cg;have ex := aI.one cg;clear cg;obtain ⟨F,B4,ra,rb,rc,rd⟩ := mg ex F B4 ra rb rc rd;replace B2 := D; clear D;replace B2 := B2.congr (cs' := kA ia i.ctx.ep ib ic id i.frm ie) rfl;refine aU ?_;have m2 := B2.lt; have n2 := B4.lt;refine af (dC (n := 64) (z := .int .u8 0) (bytes := 1) rfl rfl Tn.u Kr rfl rfl rfl rfl Om Om) rfl ?_;rintro _ w3 ⟨g5, rfl, B5, _, ex⟩;obtain ⟨F,B2,B4,ra,rb,rc,rd⟩ := iW ex F B2 B4 ra rb rc rd;have J5 : Kp w3.heap.size [Y3, Y0] (fun w => Bs w (cf g5) 64 (List.replicate 64 0)) w3 := Kp.bs (sF B5 (by rfl)) (fun _ g hg o e => by injection e with e; injection e with e _ _; simp at hg; omega);refine aU ?_;intro _ D cg;have ex := aI.one cg;clear cg;obtain ⟨F,B4,ra,rb,rc,rd,J5⟩ := Jy ex F B4 ra rb rc rd J5;replace B2 := D; clear D;replace B2 := B2.congr (cs' := kA ia i.ctx.ep ib ic id i.frm ⟨some ⟨g5, 0, none⟩, 64, 64⟩) rfl;refine aU ?_;refine aB func62 rfl (pj (i := i.put (List.replicate 64 0)) _ ⟨ia, ib, ic, id, ⟨some ⟨g5, 0, none⟩, 64, 64⟩, rfl, he, hz, ra.bs, rb.bs, rc.bs, rd.bs, J5.out⟩ hs ht) ?_;rintro e _ ⟨A6, k6, _, z6, rfl, T6, _, _, ex⟩;obtain ⟨F,B2,B4,ra,rb,rc,rd⟩ := iW ex F B2 B4 ra rb rc rd;refine aa1 (fun Zc => ?_) (fun Zc => ?_)
 ·have hno : ¬ dk (i.put (List.replicate 64 0)) := fun h => by have := (T6.1 h).1; omega
  have Zd : z6 = 3 := (T6.2 hno).1;have e1 : nP i seed = (fK.zero, 3) := by unfold nP; rw [if_pos hno]
  refine au 2 ?_;refine ak (aA rfl (cells := ku) Kr) ?_;refine aU ?_;intro _ D cg;have ex := aI.one cg;clear cg;replace F := F.bD ex;replace B4 := D; clear D;replace B4 := B4.congr (cs' := ku) rfl;refine aU ?_;refine aa4 rfl rfl B4 rfl ?_;subst Zd; rw [e1]; exact ⟨ku, rfl, jF.zero _, F.bF So⟩
 have okw : dk (i.put (List.replicate 64 0)) := Classical.byContradiction fun h => by have := (T6.2 h).1; omega
 have H6 : Bs _ A6 k6 (jX i) := (T6.1 okw).2;refine aU ?_;have X6 := F.bF So; have m6 := B2.lt; have n6 := B4.lt;refine aB func63 rfl (Bd _ (HA.ext X6) H6 Om wJ Om hE) ?_;rintro e w5 ⟨YW, YV, YZ, rfl, ⟨YX, _⟩, Za, ex⟩;refine au 1 ?_;obtain ⟨F,B2,B4,ra,rb,rc,rd⟩ := iW ex F B2 B4 ra rb rc rd
 have YY : Kp w5.heap.size [Y3, Y0] (fun w => Bs w YW YV ys) w5 := Kp.bs YX fun h0 g hg o e => by
  have Zi : YV = 64 := by rw [← YX.1]; exact Ii hE (by rw [YX.1]; exact h0)
  rcases List.mem_cons.1 hg with rfl | hg
  ·exact YX.yF B4 (show (7 : Nat) < _ by omega) o e
  obtain rfl := List.mem_singleton.1 hg;exact YX.yF B2 (show (7 : Nat) < _ by omega) o e
 skip ;refine aU ?_;intro _ D cg;have ex := aI.one cg;clear cg;obtain ⟨F,B4,ra,rb,rc,rd,YY⟩ := Jy ex F B4 ra rb rc rd YY;replace B2 := D; clear D;replace B2 := B2.congr (cs' := kA ia i.ctx.ep ib ic id i.frm ⟨YW, YV, YZ⟩) rfl;refine aa1 (fun Ze => ?_) (fun Ze => ?_)
 ·have e1 : nP i seed = (fK.zero, y) := by unfold nP; rw [hE, if_neg (fun h => h okw), if_pos (show y ≠ 0 by omega)]
  refine au 2 ?_;refine ak (aA rfl (cells := ku) Kr) ?_;refine aU ?_;intro _ D cg;have ex := aI.one cg;clear cg;replace F := F.bD ex;replace B4 := D; clear D;replace B4 := B4.congr (cs' := ku) rfl;refine aU ?_;refine aa4 rfl rfl B4 rfl ?_;rw [e1]; exact ⟨ku, rfl, jF.zero _, F.bF So⟩
 have e1 : nP i seed = (i.put ys, 0) := by unfold nP; rw [hE, if_neg (fun h => h okw), if_neg (show ¬ y ≠ 0 by omega)]
 refine aU ?_;intro _ D cg;have ex := aI.one cg;clear cg;obtain ⟨F,ra,rb,rc,rd,YY⟩ := mg ex F ra rb rc rd YY;replace B4 := D; clear D;replace B4 := B4.congr (cs' := kA ia i.ctx.ep ib ic id i.frm ⟨YW, YV, YZ⟩) rfl;refine aU ?_;refine aa4 rfl rfl B4 rfl ?_;rw [e1]; exact ⟨_, rfl, jF.mk (sg := ⟨YW, YV, YZ⟩) ⟨ia, ib, ic, id, ⟨YW, YV, YZ⟩, rfl, he, hz, ra.bs, rb.bs, rc.bs, rd.bs, YY.out⟩ Za, F.bF So⟩
def o9 (i : fK) (key : Lb) : Bool := decide (dk i) && Sg.holds key (Sg.text th.data.toList (jX i)) i.sig
theorem mN {i : fK} (w : aa9) (H : jF w cs i) (hs : i.ctx.Small) (ht : i.tag.length ≤ 1000) (h6 : i.sig.length ≤ 1000) (HA : Bs w A n key) (hn : n ≤ 1000) :
  Ct 31 #[.agg cs, .slice A n c] w (ck w (.bool (o9 i key))) := by
 have HI := H;obtain ⟨gr, tr, u, tg, sg, rfl, he, hz, _, _, _, _, k⟩ := H.1;have hk := HI.cap;have n5 := k.1;have E := Ext.refl w;refine ai 21 func31 ?_;intro _ aa4;refine aU ?_;intro _ _ B2 _ ex;replace E := E.ext ex;refine aU ?_;refine aB func62 rfl (pj (i := i) _ (HI.at.ext E) hs ht) ?_;rintro e _ ⟨A6, k6, c6, _, rfl, T6, _, _, ex⟩;obtain ⟨E,B2⟩ := aS ex E B2;refine au 11 ?_;refine bL (ez rfl rfl) rfl (fun q1 => ?_) (fun q1 => ?_)
 ·refine aU ?_;have okw : dk i := Classical.byContradiction fun h => by have := (T6.2 h).1; omega
  have H6 : Bs _ A6 k6 (jX i) := (T6.1 okw).2;refine eT 14 rfl rfl func78 rfl rfl rfl (Ie A n c key th A6 k6 c6 (jX i) sg.A sg.n sg.c i.sig _ (HA.ext E) H6 (Bs.ext k E) Om wJ Om Om hk) rfl ?_;rintro e _ ⟨rfl, ex⟩;replace E := E.ext ex;refine aU ?_;exact aa4 rfl ⟨by unfold o9; rw [decide_eq_true okw, Bool.true_and], E⟩
 refine aU ?_;exact aa4 rfl ⟨by unfold o9; rw [decide_eq_false (fun h => q1 (by have := (T6.1 h).1; omega)), Bool.false_and], E⟩
end
section
open Wire Nd
theorem xA {l L : bZ} {B : Oa} {d : Nat} (w : aa9) (H : eS w cs l) (hf : l.Fit) (hU : (dJ l).length ≤ 80000) (HA : Bs w A n seed) (hn : n ≤ 100) (HB : Bs w B m gs) (hm : m ≤ 100) (hX : jQ l seed gs z = (L, y)) :
  Ct 68 #[.agg cs, .slice A n c, .slice B m d, .int .i64 z] w fun e w' => ∃ cs', e = .returned (.tuple #[.agg cs', .int .u8 (y : Int)]) ∧ od w.heap.size w' cs' L ∧ Pm 2 w' cs' ∧ Ext w w' :=
 (xD w H hf hU HA hn HB hm).mono fun _ _ ⟨cs', h1, h2, h4, h3⟩ => ⟨cs', by rw [h1, hX], by rw [hX] at h2; exact h2, h4, h3⟩
theorem KZ {l : bZ} (okw : cX (lX l)) (ha : si l z) (YU : seed.length = 32) : jQ l seed gs z = (l.put (Sg.sig seed (Sg.text sn.data.toList (jd l gs z))), 0) := by
 have e : gY seed (Sg.text sn.data.toList (jd l gs z)) = (Sg.sig seed (Sg.text sn.data.toList (jd l gs z)), 0) := by unfold gY; rw [if_pos YU]
 unfold jQ;rw [if_neg (fun h => h okw), if_neg (fun h => h ha), e, if_neg (fun h => h rfl)]
theorem Dz {l : bZ} {s : Lb} (okw : cX (lX l)) (hs : s.length = 64) : cX (l.put s) := by obtain ⟨o1, o2, _, o4⟩ := okw;exact ⟨o1, o2, hs, o4⟩
end
section
section
open Go.Lib
variable {P : Program} {L : List (Nat × Value)} {ty u e : TypeId} {x y : Operand}
theorem Ho {base : Nat} {xs : List Value} {s : ByteArray} (hx : ev L x = some (.slice A n c)) (hy : ev L y = some (.string s)) (ht : P.underlying t = some (.slice e)) (hu : P.underlying u = some .string) (hi : (P.info? e).map (fun i => (i.zero, i.size, i.bytes)) = some (some (.int .u8 0), 1, 1)) (aa5 : Row w base e A n c xs) (hl : n + s.size ≤ 1000000) (aa6 : base ≤ w.heap.size) :
    Ef P L w (.call { callee := .builtin .append, args := #[x, y], argTypes := #[t, u] }) ty fun v w' => ∃ A' c', v = .slice A' (n + s.size) c' ∧ Row w' base e A' (n + s.size) c' (xs ++ s.data.toList.map bv) ∧ Below base w w' := Ef.run fun ρ hρ => by
  cases hq : P.info? e with
  | none => rw [hq] at hi; cases hi
  | some i =>
    rw [hq] at hi
    simp only [Option.map_some, Option.some.injEq, Prod.mk.injEq] at hi
    obtain ⟨h1, h2, h3⟩ := hi
    obtain ⟨v', w', aa8, h4, h5, _⟩ := run_append_own_string (P := P) w base t u ty e i ht hu hq h1 h2 h3 _ n xs aa5 s (by unfold maxLen; omega) Om aa6
    obtain ⟨A', c', rfl⟩ := qp h4
    exact ⟨_, w', ⟨A', c', rfl, h4, (Below.refl base w).grown h5 aa6 fun k hk => (World.ownsRow.lt aa5 k hk).1⟩, fun _ _ _ _ => by simp [execOp, resolve, invoke, builtin, hρ _ _ hx, hρ _ _ hy, aa8]⟩
end
namespace Hk
def sb (s : ByteArray) : List UInt8 := s.data.toList
theorem rn (s : ByteArray) : (sb s).length = s.size := by unfold sb; rw [Array.length_toList]; rfl
def cat (ss : List ByteArray) : List UInt8 := ss.flatMap sb
theorem kq (s : ByteArray) (ss : List ByteArray) : cat (s :: ss) = sb s ++ cat ss := rfl
theorem BS (h : i < ss.length) : cat (ss.take (i + 1)) = cat (ss.take i) ++ sb ss[i] := by rw [List.take_succ_eq_append_getElem h]; unfold cat; rw [List.flatMap_append]; simp
theorem Tl (h : i < ss.length) : (cat (ss.take i)).length + ss[i].size ≤ (cat ss).length := by
 have h1 : cat ss = cat (ss.take (i + 1)) ++ cat (ss.drop (i + 1)) := by unfold cat; rw [← List.flatMap_append, List.take_append_drop]
 rw [h1, BS h, List.length_append, List.length_append, rn]; omega
theorem sC (xs : Lb) : sb (iU xs) = xs := rfl
def Oc : ByteArray := ⟨#[72, 80, 75, 69, 45, 118, 49]⟩
def ext (nm : ByteArray) (xs : Lb) (lb : ByteArray) (ys : Lb) : List UInt8 := Mac.tag xs (cat [Oc, nm, lb, iU ys])
def exp (nm : ByteArray) (xs : Lb) (lb : ByteArray) (is : Lb) (k : Nat) : List UInt8 := Kdf.expand xs (cat [iU (Wire.be 2 k), Oc, nm, lb, iU is]) k
end Hk
open Hk
theorem tK (ss : List ByteArray) (k : Nat) (w : aa9) (B : aq w g t (ss.map Value.string).toArray) (hk : ss.length = k) (YW : k ≤ 100) (hs : (cat ss).length ≤ 100000) :
  Ct 167 #[.slice (cf g) k k] w fun e w' => ∃ A' m c', e = .returned (.slice A' m c') ∧ Row w' w.heap.size 5 A' m c' ((cat ss).map bv) ∧ Ext w w' := by
 refine ai 17 func167 ?_;intro _ aa4;refine aU ?_;refine aE (fun n' L wr => ∃ (i m c5 : Nat) (A5 : Oa), L = [(3, .slice A5 m c5), (6, .slice (cf g) k k), (7, .int .i64 (k : Int)), (8, .int .i64 (i : Int))] ∧ n' = k - i ∧ (i ≤ k ∧ Ext w wr ∧ Row wr w.heap.size 5 A5 m c5 ((cat (ss.take i)).map bv))) _ _ ⟨0, 0, 0, none, rfl, rfl, Nat.zero_le _, Ext.refl _, Row.empty _ _ _⟩ Ls ?_;rintro _ n' L wr ⟨i, m, c5, A5, rfl, rfl, _, F, R⟩ YU;refine aa1 (fun YV => ?_) (fun YV => ?_)
 ·have hik : i < ss.length := Om
  have hm : m = (cat (ss.take i)).length := by have := R.len; simpa using this.symm
  have hle := Tl hik
  have aa7 : wr.cell? ⟨g, 0 + i, none⟩ = some (.string ss[i]) := by rw [Nat.zero_add];exact (B.ext F).get (by simp [hik])
  refine au 6 ?_;refine ak (aC rfl rfl Tn.u Kr (j := i) Om Om) ?_;refine ak (ah rfl Tn.u rfl aa7) ?_;refine aU ?_;refine af (Ho rfl rfl Tn.u Tn.u Kr R Om F.size) rfl ?_;rintro _ _ ⟨A6, c6, rfl, R6, be⟩;have F6 := F.trans be; rw [← List.map_append] at R6;refine au 8 ?_;refine ae ?_;refine YU _ _ ⟨i + 1, _, c6, A6, rfl, rfl, Om, F6, by rw [BS hik]; exact R6⟩ Om Ls
 refine aU ?_;refine aa4 rfl ?_;obtain rfl : i = k := Om
 rw [List.take_of_length_le Om] at R;exact ⟨A5, m, c5, rfl, R, F⟩
theorem gp (nm lb : ByteArray) (A B : Oa) (n c m d : Nat) (xs ys : Lb) (w : aa9) (HA : Bs w A n xs) (hn : n ≤ 100000) (HB : Bs w B m ys) (hm : m ≤ 10000) (h1 : nm.size ≤ 100) (h2 : lb.size ≤ 100) :
  Ct 137 #[.string nm, .slice A n c, .string lb, .slice B m d] w fun e w' => ∃ A' c', e = .returned (.slice A' 32 c') ∧ Bs w' A' 32 (Hk.ext nm xs lb ys) ∧ Ext w w' := by
 have E := Ext.refl w;have hyl := HB.1
 have hl : (cat [Oc, nm, lb, iU ys]).length ≤ 11000 := by simp only [kq, List.length_append, rn nm, rn lb, sC, show (sb Oc).length = 7 from rfl, show (cat []).length = 0 from rfl]; omega
 refine ai 17 func137 ?_;intro _ aa4;refine au 11 ?_;refine ak (kx rfl HB Tn.u Tn.u Tn.u) ?_;refine af (aF (z := .string ⟨#[]⟩) Tn.u Kr rfl rfl rfl rfl rfl) rfl ?_;rintro _ _ ⟨_, rfl, B1, _, ex⟩;obtain ⟨HA,E⟩ := aS ex HA E;refine aB func167 rfl (tK [Oc, nm, lb, iU ys] 4 _ B1 rfl Om Om) ?_;rintro e _ ⟨A2, m2, c2, rfl, R2, ex⟩;refine aU ?_;obtain ⟨HA,E⟩ := aS ex HA E;have H2 := R2.bs; have YU := H2.1;refine aB func99 rfl (rE A A2 n c m2 c2 xs _ _ HA Om H2 Om) ?_;rintro e _ ⟨A3, c3, rfl, H3, ex⟩;replace E := E.ext ex;refine aU ?_;exact aa4 rfl ⟨A3, c3, rfl, H3, E⟩
theorem jP (nm lb : ByteArray) (A B : Oa) (n c m d k : Nat) (xs ys : Lb) (w : aa9) (HA : Bs w A n xs) (hn : n ≤ 100000) (HB : Bs w B m ys) (hm : m ≤ 10000) (h1 : nm.size ≤ 100) (h2 : lb.size ≤ 100) (hk : k ≤ 8160) :
  Ct 136 #[.string nm, .slice A n c, .string lb, .slice B m d, .int .i64 (k : Int)] w fun e w' => ∃ A' c', e = .returned (.slice A' k c') ∧ Bn w.heap.size w' A' k (Hk.exp nm xs lb ys k) ∧ k ≤ c' ∧ Ext w w' := by
 have E := Ext.refl w;have hyl := HB.1;have hbl := Wire.ji 2 k
 have hl : (cat [iU (Wire.be 2 k), Oc, nm, lb, iU ys]).length ≤ 11000 := by simp only [kq, List.length_append, rn nm, rn lb, sC, show (sb Oc).length = 7 from rfl, show (cat []).length = 0 from rfl]; omega
 refine ai 32 func136 ?_;intro _ aa4;refine aU ?_;refine aB func131 rfl (ij none 0 0 2 k [] _ (Bs.nil _ _) Om Om Om) ?_;rintro e _ ⟨_, _, rfl, R1, ex⟩;obtain ⟨HA,HB,E⟩ := bh ex HA HB E;have H1 := R1.bs;refine au 8 ?_;refine ak (kx rfl H1 Tn.u Tn.u Tn.u) ?_;refine au 3 ?_;refine ak (kx rfl HB Tn.u Tn.u Tn.u) ?_;refine af (aF (z := .string ⟨#[]⟩) Tn.u Kr rfl rfl rfl rfl rfl) rfl ?_;rintro _ _ ⟨_, rfl, B2, _, ex⟩;obtain ⟨HA,E⟩ := aS ex HA E;refine aB func167 rfl (tK [iU (Wire.be 2 k), Oc, nm, lb, iU ys] 5 _ B2 rfl Om Om) ?_;rintro e _ ⟨A3, m3, c3, rfl, R3, ex⟩;obtain ⟨HA,E⟩ := aS ex HA E;have H3 := R3.bs; have YX := H3.1;refine aU ?_;have YU := E.size;refine aB func191 rfl (tH A A3 n c m3 c3 k xs _ _ HA Om H3 Om hk) ?_;rintro e _ ⟨A4, c4, rfl, ⟨H4, YV⟩, YW, ex⟩;replace E := E.ext ex;refine aU ?_;exact aa4 rfl ⟨A4, c4, rfl, Bn.lo ⟨H4, YV⟩ YU, YW, E⟩
end
def aY (u : Fp.F) (N : Nat) : Nat → (Fp.F × Fp.F) × (Fp.F × Fp.F)
 | 0 => ((1, 0), (u, 1))
 | i + 1 => if N / 2 ^ (254 - i) % 2 = 1 then ((IE (aY u N i).2.1 (aY u N i).2.2 (aY u N i).1.1 (aY u N i).1.2 u).2, (IE (aY u N i).2.1 (aY u N i).2.2 (aY u N i).1.1 (aY u N i).1.2 u).1)
   else IE (aY u N i).1.1 (aY u N i).1.2 (aY u N i).2.1 (aY u N i).2.2 u
theorem pa {u : Fp.F} (h : N / 2 ^ (254 - i) % 2 = 1) : aY u N (i + 1) = ((IE (aY u N i).2.1 (aY u N i).2.2 (aY u N i).1.1 (aY u N i).1.2 u).2, (IE (aY u N i).2.1 (aY u N i).2.2 (aY u N i).1.1 (aY u N i).1.2 u).1) := by rw [aY, if_pos h]
theorem pA {u : Fp.F} (h : ¬ N / 2 ^ (254 - i) % 2 = 1) : aY u N (i + 1) = IE (aY u N i).1.1 (aY u N i).1.2 (aY u N i).2.1 (aY u N i).2.2 u := by rw [aY, if_neg h]
def eV (N : Nat) (u : Fp.F) : Fp.F := (aY u N 255).1.1 * Fp.inv (aY u N 255).1.2
theorem zB (A : Oa) (c : Nat) (es : Lb) (f3 : Nat → Nat) (u : Fp.F) (w : aa9) (HA : Bs w A 32 es) (U : FE (fe f3) u) :
  Ct 238 #[.slice A 32 c, .agg (fe f3)] w fun e w' => ∃ g, e = .returned (.slice (cf g) 32 32) ∧ w.heap.size ≤ g ∧ aq w' g 5 (dc (Fp.le 32 (eV (Fp.num es) u).val)) ∧ Ext w w' := by
 have hle := HA.1;have E := Ext.refl w;have Zl := HA;refine ai 49 func238 ?_;intro _ aa4;refine aU ?_;intro w1 g3 (B3 : aq _ _ _ (fe f3)) Zt ex;replace E := E.ext ex;refine aU ?_;refine gj 0 (fun n' L wr => ∃ (b g5 g6 : Nat) (p1 p2 q1 q2 : Nat → Nat), L = [(0, .slice A 32 c), (3, .pointer (cf g3)), (5, .pointer (cf g5)), (6, .pointer (cf g6)), (7, .int .i64 (b : Int))] ∧ n' = 1 + b ∧ (b ≤ 254 ∧ w.heap.size ≤ g5 ∧ w.heap.size ≤ g6 ∧ g3 < g5 ∧ g3 < g6 ∧ g5 ≠ g6 ∧ Ext w wr ∧ aq wr g3 134 (fe f3) ∧ aq wr g5 300 (pr p1 p2) ∧ aq wr g6 300 (pr q1 q2) ∧ FE (fe p1) (aY u (Fp.num es) (254 - b)).1.1 ∧ FE (fe p2) (aY u (Fp.num es) (254 - b)).1.2 ∧ FE (fe q1) (aY u (Fp.num es) (254 - b)).2.1 ∧ FE (fe q2) (aY u (Fp.num es) (254 - b)).2.2)) rfl ?_ ?_
 ·rintro G n' L wr ⟨b, g5, g6, p1, p2, q1, q2, rfl, rfl, _, YX, YY, Zb, Zc, n56, E, B3, B5, B6, P1, P2, Q1, Q2⟩ Zd
  obtain ⟨i, hi⟩ : ∃ i, i = 254 - b := ⟨_, rfl⟩
  have hbi : b = 254 - i := Om
  rw [← hi] at P1 P2 Q1 Q2;have hnb := Ff es b Om;obtain ⟨b1, Zm, x, rfl, hx, YZ⟩ := Zl.byte (k := b / 8) Om;have hcx := (E.cell (dR YZ)).trans YZ;have hxl := x.toNat_lt;rw [← hx.out] at hnb;have hxd : x.toNat / 2 ^ (b % 8) < 256 := Nat.lt_of_le_of_lt (Nat.div_le_self _ _) Om;refine au 5 ?_;refine ak (dI rfl rfl Om (show IntKind.i64.wrap ((b : Int).tdiv 8) = ((b / 8 : Nat) : Int) from bk rfl Om)) ?_;refine ak (aC rfl rfl Tn.u Kr (j := b / 8) rfl Om) ?_;refine ak (ah rfl Tn.u rfl hcx) ?_;refine au 1 ?_;refine ak (cR rfl rfl Om (show ((b : Int).tmod 8) = ((b % 8 : Nat) : Int) from rfl)) ?_;refine ak (cn rfl rfl Om (LS _ _ Om)) ?_;refine ak (cT rfl rfl (Rz _ hxd)) ?_;refine aa1 (fun Zn => ?_) (fun Zn => ?_)
  ·have hlad := pa (u := u) (N := Fp.num es) (i := i) (by rw [← hbi]; omega);refine au 1 ?_;refine ak (QC rfl B6) ?_;refine ak (QC rfl B5) ?_;refine ak (cL rfl B3) ?_;refine aB func259 rfl (ux q1 q2 p1 p2 f3 _ _ _ _ u _ Q1 Q2 P1 P2 U) ?_;rintro e w6 ⟨h1, h2, h3, h4, rfl, G1, G2, G3, G4, ex⟩;obtain ⟨E,B3,B5,B6⟩ := bG ex E B3 B5 B6;refine au 4 ?_;refine af (ag rfl rfl (by rw [cx]; kernel_rfl) B6 (by rw [cx, cx]) (mK _ _)) rfl ?_;rintro _ w7 ⟨rfl, D6, cg⟩;replace B3 := B3.aw cg Om; replace B5 := B5.aw cg Om; replace E := E.aw cg YY;refine af (ag rfl rfl (by rw [cx]; kernel_rfl) B5 (by rw [cx, cx]) (mK _ _)) rfl ?_;rintro _ w8 ⟨rfl, D5, cg⟩;replace B3 := B3.aw cg Om; replace D6 := D6.aw cg Om; replace E := E.aw cg YX;refine aa1 (fun Zg => ?_) (fun Zg => ?_)
   ·refine aU ?_;refine bW ?_
    obtain ⟨j, rfl⟩ : ∃ j, b = j + 1 := ⟨b - 1, Om⟩
    rw [show (((j + 1 : Nat) : Int) - 1) = (j : Int) by omega];have hij : 254 - j = i + 1 := Om
    refine Zd _ _ ⟨j, g5, g6, h3, h4, h1, h2, rfl, rfl, Om, YX, YY, Zb, Zc, n56, E, B3, D5, D6, by rw [hij, hlad]; exact G3, by rw [hij, hlad]; exact G4, by rw [hij, hlad]; exact G1, by rw [hij, hlad]; exact G2⟩ Om Ls
   refine aU ?_;refine aD Kr 8 rfl ?_; intro Zo ex Zp;obtain ⟨E,D5⟩ := aS ex E D5;refine zm [0] ?_;refine my 1 rfl (vt rfl D5) ?_;refine zm [2] ?_;refine my 3 rfl (vU rfl D5) ?_;refine bC 4 rfl func145 rfl (kS G4 _) ?_;rintro e w9 ⟨c9, rfl, F9, ex⟩;replace E := E.ext ex;refine aU ?_;refine bC 5 rfl func144 rfl (bo G3 F9 _) ?_;rintro e Zq ⟨c10, rfl, YW, ex⟩;refine aU ?_;replace E := E.ext ex;replace YW := YW.congr (show _ = eV (Fp.num es) u by unfold eV; rw [show (255 : Nat) = i + 1 by omega, hlad]); have hsz := E.size;refine bC 6 rfl func155 rfl (jn YW _) ?_;rintro e Zr ⟨Zh, rfl, Zi, Zj, ex⟩;replace E := E.ext ex;refine zm [7] ?_;refine bQ ?_;exact aa4 rfl ⟨Zh, rfl, Om, Zj, E⟩
  have hlad := pA (u := u) (N := Fp.num es) (i := i) (by rw [← hbi]; omega);refine au 1 ?_;refine ak (QC rfl B5) ?_;refine ak (QC rfl B6) ?_;refine ak (cL rfl B3) ?_;refine aB func259 rfl (ux p1 p2 q1 q2 f3 _ _ _ _ u _ P1 P2 Q1 Q2 U) ?_;rintro e w6 ⟨h1, h2, h3, h4, rfl, G1, G2, G3, G4, ex⟩;obtain ⟨E,B3,B5,B6⟩ := bG ex E B3 B5 B6;refine au 4 ?_;refine af (ag rfl rfl (by rw [cx]; kernel_rfl) B5 (by rw [cx, cx]) (mK _ _)) rfl ?_;rintro _ w7 ⟨rfl, D5, cg⟩;replace B3 := B3.aw cg Om; replace B6 := B6.aw cg Om; replace E := E.aw cg YX;refine af (ag rfl rfl (by rw [cx]; kernel_rfl) B6 (by rw [cx, cx]) (mK _ _)) rfl ?_;rintro _ w8 ⟨rfl, D6, cg⟩;replace B3 := B3.aw cg Om; replace D5 := D5.aw cg Om; replace E := E.aw cg YY;refine aa1 (fun Zg => ?_) (fun Zg => ?_)
  ·refine aU ?_;refine bW ?_
   obtain ⟨j, rfl⟩ : ∃ j, b = j + 1 := ⟨b - 1, Om⟩
   rw [show (((j + 1 : Nat) : Int) - 1) = (j : Int) by omega];have hij : 254 - j = i + 1 := Om
   refine Zd _ _ ⟨j, g5, g6, h1, h2, h3, h4, rfl, rfl, Om, YX, YY, Zb, Zc, n56, E, B3, D5, D6, by rw [hij, hlad]; exact G1, by rw [hij, hlad]; exact G2, by rw [hij, hlad]; exact G3, by rw [hij, hlad]; exact G4⟩ Om Ls
  refine aU ?_;refine aD Kr 8 rfl ?_; intro Zo ex Zp;obtain ⟨E,D5⟩ := aS ex E D5;refine zm [0] ?_;refine my 1 rfl (vt rfl D5) ?_;refine zm [2] ?_;refine my 3 rfl (vU rfl D5) ?_;refine bC 4 rfl func145 rfl (kS G2 _) ?_;rintro e w9 ⟨c9, rfl, F9, ex⟩;replace E := E.ext ex;refine aU ?_;refine bC 5 rfl func144 rfl (bo G1 F9 _) ?_;rintro e Zq ⟨c10, rfl, YW, ex⟩;refine aU ?_;replace E := E.ext ex;replace YW := YW.congr (show _ = eV (Fp.num es) u by unfold eV; rw [show (255 : Nat) = i + 1 by omega, hlad]); have hsz := E.size;refine bC 6 rfl func155 rfl (jn YW _) ?_;rintro e Zr ⟨Zh, rfl, Zi, Zj, ex⟩;replace E := E.ext ex;refine zm [7] ?_;refine bQ ?_;exact aa4 rfl ⟨Zh, rfl, Om, Zj, E⟩
 intro G Zd;refine aU ?_;refine dA Kr 10 rfl ?_; intro Zs ex Zu;obtain ⟨E,B3⟩ := aS ex E B3;have Ze := E;have YU := B3;have X0 := Ext.refl Zs;refine dz 1 rfl Kr (aA rfl (cells := fe (fun _ => 0)) Kr) rfl ?_;refine dz 3 rfl Kr (cL rfl YU) rfl ?_;refine dx (fl := [sj 6 5 300 (pr (fun _ => 0) (fun _ => 0)), sj 7 6 300 (pr (fun _ => 0) (fun _ => 0))]) rfl ?_;refine j9 0 (some 8) func143 ?_;intro _ ex exb;obtain ⟨E,B3,X0⟩ := bh ex E B3 X0;refine ⟨_, (dw 1 _ Om), ?_⟩;rintro e _ ⟨_, rfl, F2, ex⟩;refine ⟨_, rfl, ex, ?_⟩;obtain ⟨E,B3,X0⟩ := bh ex E B3 X0;obtain ⟨f2, rfl, F2⟩ := F2.fe;refine ju (dst := some 10) 2 rfl Kr (aA rfl (cells := pr f2 (fun _ => 0)) Kr) rfl (aN (aa2 rfl) (aN (aa2 rfl) av)) ?_;refine j9 4 (some 12) func143 ?_;intro _ ex exb;obtain ⟨E,B3,X0⟩ := bh ex E B3 X0;refine ⟨_, (dw 1 _ Om), ?_⟩;rintro e _ ⟨_, rfl, F4, ex⟩;refine ⟨_, rfl, ex, ?_⟩;obtain ⟨E,B3,X0⟩ := bh ex E B3 X0;obtain ⟨f4, rfl, F4⟩ := F4.fe;refine ju (dst := some 13) 5 rfl Kr (aA rfl (cells := pr f3 f4) Kr) rfl (aN (aa2 rfl) (aN (aa2 rfl) av)) ?_;refine jK ⟨(aN (br rfl Kr) (aN (br rfl Kr) av)), aa2 rfl, aa2 rfl, (aN (⟨rfl, aa2 rfl⟩) (aN (⟨rfl, aa2 rfl⟩) av)), (aN (aQ Kr) (aN (aQ Kr) av))⟩ Kr ?_;rintro _ _ _ ex ⟨⟨g5, rfl, Y0⟩, Y2⟩ ⟨⟨g6, rfl, Y3⟩, Za⟩ YV;replace Y2 := Y2 g5 rfl;replace Za := Za g6 rfl;have Zf : g5 ≠ g6 := fun e => YV g5 rfl (by rw [e]; rfl);obtain ⟨E,B3,X0⟩ := bh ex E B3 X0;have YX := Nat.le_trans Ze.size Y2; have Zb := Nat.lt_of_lt_of_le YU.lt Y2;have YY := Nat.le_trans Ze.size Za; have Zc := Nat.lt_of_lt_of_le YU.lt Za;refine cY 8 Kr ?_;refine er rfl (ag rfl rfl (by rw [cx]; kernel_rfl) Y0 (by rw [cx, cx]) (mK _ _)) rfl ?_;rintro _ _ ⟨rfl, Y0, cg⟩;replace X0 := X0.aw cg Y2;refine ⟨X0, ?_⟩;replace E := Ze.ext X0;replace B3 := YU.ext X0;replace Y3 := Y3.aw cg Om;refine cY 9 Kr ?_;refine er rfl (ag rfl rfl (by rw [cx]; kernel_rfl) Y3 (by rw [cx, cx]) (mK _ _)) rfl ?_;rintro _ _ ⟨rfl, Y3, cg⟩;replace X0 := X0.aw cg Za;refine ⟨X0, ?_⟩;replace E := Ze.ext X0;replace B3 := YU.ext X0;replace Y0 := Y0.aw cg Om;refine dM Kr ?_;refine au 7 ?_;refine dB ?_; intro Zv Zk;refine iL ?_;refine ae (Zk ?_);exact Zd _ _ ⟨254, g5, g6, f2, (fun _ => 0), f3, f4, rfl, rfl, Om, YX, YY, Zb, Zc, Om, E, B3, Y0, Y3, F2, FE.zero, U, F4⟩ Ls
def cQ (xs : Lb) : List UInt8 := ((Fp.pad xs).set 0 (UInt8.ofNat (((Fp.pad xs).getD 0 0).toNat / 8 * 8))).set 31 (UInt8.ofNat (((Fp.pad xs).getD 31 0).toNat % 64 + 64))
theorem nU (xs : Lb) : (cQ xs).length = 32 := by unfold cQ; rw [List.length_set, List.length_set, Fp.cJ]
theorem OG : ∀ x : Fin 256, bits .andNot .u8 ((x.val : Nat) : Int) 7 = ((x.val / 8 * 8 : Nat) : Int) := by decide +kernel
theorem US : ∀ x : Fin 256, bits .and .u8 ((x.val : Nat) : Int) 63 = ((x.val % 64 : Nat) : Int) := by decide +kernel
theorem Xd : ∀ x : Fin 64, bits .or .u8 ((x.val : Nat) : Int) 64 = ((x.val + 64 : Nat) : Int) := by decide +kernel
theorem Np (l : Lb) (i : Nat) (h : i < l.length) : (dc l)[i]? = some (.int .u8 ((l.getD i 0).toNat : Int)) := by simp [dc, bv, h]
theorem gI (l : Lb) (i : Nat) (x : UInt8) : (dc l).setIfInBounds i (.int .u8 (x.toNat : Int)) = dc (l.set i x) := by simp [dc, bv, List.map_set]
theorem vj (h : n < 256) : ((UInt8.ofNat n).toNat : Int) = (n : Int) := by rw [UInt8.toNat_ofNat']; omega
theorem Jq (A : Oa) (n c : Nat) (xs : Lb) (w : aa9) (HA : Bs w A n xs) :
  Ct 239 #[.slice A n c] w fun e w' => ∃ g, e = .returned (.slice (cf g) 32 32) ∧ Bs w' (cf g) 32 (cQ xs) ∧ Ext w w' := by
 have hl := HA.1;have hpl := Fp.cJ xs
 have HT : Bs w A (min n 32) (xs.take 32) := by
  have h := HA.take (Nat.min_le_left n 32)
  have e : xs.take (min n 32) = xs.take 32 := by
   rcases Nat.le_total n 32 with h | h
   ·rw [Nat.min_eq_left h, List.take_of_length_le Om, List.take_of_length_le Om]
   rw [Nat.min_eq_right h]
  rwa [e] at h
 obtain ⟨x0, YU⟩ : ∃ x, x = ((Fp.pad xs).getD 0 0).toNat := ⟨_, rfl⟩
 obtain ⟨x1, YV⟩ : ∃ x, x = ((Fp.pad xs).getD 31 0).toNat := ⟨_, rfl⟩
 have h0 : x0 < 256 := YU ▸ UInt8.toNat_lt _;have h1 : x1 < 256 := YV ▸ UInt8.toNat_lt _;refine ai 21 func239 ?_;intro _ aa4;refine aU ?_;refine af (dC (n := 32) (z := .int .u8 0) (bytes := 1) rfl rfl Tn.u Kr rfl rfl rfl rfl Om Om) rfl ?_;rintro _ _ ⟨g, rfl, B1, hg, ex⟩;have E1 := ex; replace B1 := B1.congr (show _ = dc (iX 32) from rfl);refine aU ?_;refine af (iy rfl rfl Tn.u Kr B1 (HT.wk E1).2 (by rw [List.length_map, HT.1]) (by rw [List.length_map, HT.1, aV]; simp [iX]; omega) aJ) rfl ?_;rintro _ _ ⟨rfl, B2, cg⟩;have E2 := E1.aw cg hg; replace B2 := LI xs B2;refine au 5 ?_;refine ak (aC rfl rfl Tn.u Kr (j := 0) rfl Om) ?_;refine ak (ah rfl Tn.u rfl (B2.get (Np _ 0 Om))) ?_;refine ak (Bh rfl rfl (show bits .andNot .u8 _ 7 = ((x0 / 8 * 8 : Nat) : Int) by rw [← YU]; exact OG ⟨x0, h0⟩)) ?_;refine ak (aC rfl rfl Tn.u Kr (j := 0) rfl Om) ?_;rw [← vj (n := x0 / 8 * 8) Om];refine af (az rfl rfl rfl Kr B2 (by rw [aV]; omega)) rfl ?_;rintro _ _ ⟨rfl, B3, cg⟩;have E3 := E2.aw cg hg; rw [gI] at B3;refine au 6 ?_;refine ak (aC rfl rfl Tn.u Kr (j := 31) rfl Om) ?_;refine ak (ah rfl Tn.u rfl (B3.get (Np _ 31 (by rw [List.length_set]; omega)))) ?_;refine ak (cT rfl rfl (show bits .and .u8 _ 63 = ((x1 % 64 : Nat) : Int) by rw [List.getD_eq_getElem?_getD, List.getElem?_set_ne Om, ← List.getD_eq_getElem?_getD, ← YV]; exact US ⟨x1, h1⟩)) ?_;refine ak (jZ rfl rfl (Xd ⟨x1 % 64, Om⟩)) ?_;refine ak (aC rfl rfl Tn.u Kr (j := 31) rfl Om) ?_;rw [← vj (n := x1 % 64 + 64) Om];refine af (az rfl rfl rfl Kr B3 (by rw [aV, List.length_set]; omega)) rfl ?_;rintro _ _ ⟨rfl, B4, cg⟩;have E4 := E3.aw cg hg; rw [gI] at B4;refine aU ?_;exact aa4 rfl ⟨g, rfl, aX (xs := cQ xs) (B4.congr (by unfold cQ; rw [← YU, ← YV])) (nU xs), E4⟩
theorem vc (A : Oa) (n c : Nat) (xs : Lb) (f : FuncId) (us : List Value) (p : UInt8 → Bool) (fn : Func) (b : Code) (w : aa9) (HA : Bs w A n xs) (hn : n ≤ 1000000) (hf : Tryz.prog.funcs[f]? = some fn) (hb : fn.body = some b) (hnm : (fn.name == "runtime.NumGoroutine") = false)
  (hp : ∀ (x : UInt8) (w1 : aa9), Ext w w1 → Ct f ([Value.int .u8 (x.toNat : Int)] ++ us).toArray w1 fun e w' => e = .returned (.bool (p x)) ∧ Ext w1 w') :
  Ct 267 #[.slice A n c, .func (.func f) #[] us.toArray] w fun e w' => ∃ z : Int, e = .returned (.int .i64 z) ∧ (0 ≤ z ↔ xs.any p = true) ∧ Ext w w' := by
 have hl := HA.1;refine ai 19 func267 ?_;intro _ aa4;refine aU ?_;refine aE (fun n' L wr => ∃ i : Nat, L = [(0, .slice A n c), (1, .func (.func f) #[] us.toArray), (7, .int .i64 (n : Int)), (8, .int .i64 (i : Int))] ∧ n' = n - i ∧ (i ≤ n ∧ Ext w wr ∧ (xs.take i).any p = false)) _ _ ⟨0, rfl, rfl, Om, Ext.refl _, rfl⟩ Ls ?_;rintro _ n' L wr ⟨i, rfl, rfl, _, E, hno⟩ YV;refine aa1 (fun YW => ?_) (fun YW => ?_)
 ·obtain ⟨b1, YX, x, rfl, hx, hcx⟩ := (HA.wk E).byte (k := i) Om
  have htk : xs.take (i + 1) = xs.take i ++ [x] := by rw [List.take_succ_eq_append_getElem Om, hx.out, List.getD_eq_getElem?_getD, List.getElem?_eq_getElem Om]; rfl
  refine au 16 ?_;refine ak (ah rfl Tn.u rfl hcx) ?_;refine af (kD (Φ := fun v w' => v = .bool (p x) ∧ Ext _ w') (xs := [_]) (vs := [.int .u8 (x.toNat : Int)]) rfl hf hb hnm rfl (hp x _ E) (fun _ _ h => ⟨_, h.1, rfl, h.2⟩)) rfl ?_;rintro _ _ ⟨rfl, ex⟩;have E2 := E.ext ex;refine aU ?_;refine bw rfl (fun YU => ?_) (fun YU => ?_)
  ·refine aU ?_;refine aa4 rfl ?_;refine ⟨i, rfl, ⟨fun _ => ?_, fun _ => Om⟩, E2⟩;rw [List.any_eq_true];exact ⟨x, List.mem_of_mem_take (i := i + 1) (by rw [htk]; simp), YU⟩
  refine au 7 ?_;refine ae ?_;refine YV _ _ ⟨i + 1, rfl, rfl, Om, E2, by rw [htk, List.any_append, hno]; simpa using YU⟩ Om Ls
 refine aU ?_;refine aa4 rfl ?_;refine ⟨-1, rfl, ⟨fun h => absurd h Om, fun h => ?_⟩, E⟩;rw [List.take_of_length_le Om] at hno;rw [hno] at h;cases h
theorem rf (A : Oa) (n c : Nat) (xs : Lb) (f : FuncId) (us : List Value) (p : UInt8 → Bool) (fn : Func) (b : Code) (w : aa9) (HA : Bs w A n xs) (hn : n ≤ 1000000) (hf : Tryz.prog.funcs[f]? = some fn) (hb : fn.body = some b) (hnm : (fn.name == "runtime.NumGoroutine") = false)
  (hp : ∀ (x : UInt8) (w1 : aa9), Ext w w1 → Ct f ([Value.int .u8 (x.toNat : Int)] ++ us).toArray w1 fun e w' => e = .returned (.bool (p x)) ∧ Ext w1 w') :
  Ct 250 #[.slice A n c, .func (.func f) #[] us.toArray] w (ck w (.bool (xs.any p))) := by
 refine ai 9 func250 ?_;intro _ aa4;refine aU ?_;refine aB func267 rfl (vc A n c xs f us p fn b _ HA hn hf hb hnm hp) ?_;rintro e _ ⟨_, rfl, hz, ex⟩;refine aU ?_;exact aa4 rfl ⟨(r8 hz.symm).symm, ex⟩
theorem zG (x : UInt8) (w : aa9) : Ct 251 #[.int .u8 (x.toNat : Int)] w (ck w (.bool (decide (x ≠ 0)))) := by refine ai 5 func251 ?_;intro _ aa4;refine aU ?_;exact aa4 rfl ⟨dZ ⟨fun h e => h (by rw [e]; rfl), fun h e => h (UInt8.toNat_inj.1 (by simpa using e))⟩, Ext.refl _⟩
def rO (xs ys : Lb) : List UInt8 × Nat := if xs.length ≠ 32 then ([], 1) else if ys.length ≠ 32 then ([], 3) else (Fp.le 32 (eV (Fp.num (cQ xs)) (Fp.of (Fp.RR ys))).val, 0)
def uY (xs ys : Lb) : List UInt8 × Nat := if (rO xs ys).2 ≠ 0 then ([], (rO xs ys).2) else if (rO xs ys).1.any (fun x => decide (x ≠ 0)) then ((rO xs ys).1, 0) else ([], 9)
def TJ (w : aa9) (r : List UInt8 × Nat) (e : Ending) (w' : aa9) : Prop := ∃ A k c, e = .returned (.tuple #[.slice A k c, .int .u8 (r.2 : Int)]) ∧ Bs w' A k r.1 ∧ Nw w.heap.size w' A ∧ Ext w w'
theorem vm (A B : Oa) (n c m d : Nat) (xs ys : Lb) (w : aa9) (HA : Bs w A n xs) (HB : Bs w B m ys) :
  Ct 198 #[.slice A n c, .slice B m d] w (TJ w (rO xs ys)) := by
 have hx := HA.1; have hy := HB.1;refine aZ 19 func198 ?_;intro _ aa4;refine aa1 (fun YU => ?_) (fun YU => ?_)
 ·refine aU ?_;exact aa4 rfl rfl ⟨none, 0, 0, by rw [rO, if_pos Om]; rfl, by rw [rO, if_pos Om]; exact Bs.nil _ _, fun _ _ h => (by cases h), Ext.refl _⟩
 refine aa1 (fun YV => ?_) (fun YV => ?_)
 ·refine aU ?_;exact aa4 rfl rfl ⟨none, 0, 0, by rw [rO, if_neg Om, if_pos Om]; rfl, by rw [rO, if_neg Om, if_pos Om]; exact Bs.nil _ _, fun _ _ h => (by cases h), Ext.refl _⟩
 have hM : rO xs ys = (Fp.le 32 (eV (Fp.num (cQ xs)) (Fp.of (Fp.RR ys))).val, 0) := by rw [rO, if_neg Om, if_neg Om]
 refine aU ?_;refine aB func239 rfl (Jq A n c xs _ HA) ?_;rintro e _ ⟨_, rfl, H1, ex⟩;replace HB := HB.ext ex;have E1 := ex;refine aU ?_;refine aB func240 rfl (EU B m d ys _ HB) ?_;rintro e _ ⟨_, rfl, F2, ex⟩;refine aU ?_;replace H1 := H1.ext ex;obtain ⟨f2, rfl, F2⟩ := F2.fe; have E2 := E1.ext ex;refine aB func238 rfl (zB _ 32 _ f2 _ _ H1 F2) ?_;rintro e _ ⟨g3, rfl, _, B3, ex⟩;have E3 := E2.ext ex; have hs := E2.size;refine aU ?_;exact aa4 rfl rfl ⟨some ⟨g3, 0, none⟩, 32, 32, by rw [hM]; rfl, by rw [hM]; exact aX B3 (Fp.cw 32 _), Nw.of B3 Om, E3⟩
theorem tW (A : Oa) (n c : Nat) (xs : Lb) (w : aa9) (HA : Bs w A n xs) :
  Ct 138 #[.slice A n c] w (TJ w (rO xs (Fp.le 32 9))) := by
 refine aZ 10 func138 ?_;intro _ aa4;refine aU ?_;refine aB func143 rfl (dw 9 _ Om) ?_;rintro e _ ⟨_, rfl, F1, ex⟩;refine aU ?_;replace HA := HA.ext ex;have E1 := ex;refine aB func155 rfl (jn F1 _) ?_;rintro e _ ⟨_, rfl, _, B2, ex⟩;refine aU ?_;replace HA := HA.ext ex;have E2 := E1.ext ex; have H2 := aX B2 (Fp.cw 32 _);refine aB func198 rfl (vm A _ n c 32 32 xs (Fp.le 32 9) _ HA H2) ?_;rintro e _ ⟨A3, k3, c3, rfl, H3, hf, ex⟩;have E3 := E2.ext ex; have hs := E2.size;refine aU ?_;exact aa4 rfl rfl ⟨A3, k3, c3, rfl, H3, hf.lo Om, E3⟩
theorem qd (A B : Oa) (n c m d : Nat) (xs ys : Lb) (w : aa9) (HA : Bs w A n xs) (HB : Bs w B m ys) :
  Ct 219 #[.slice A n c, .slice B m d] w (TJ w (uY xs ys)) := by
 refine aZ 23 func219 ?_;intro _ aa4;refine aU ?_;refine aB func198 rfl (vm A B n c m d xs ys _ HA HB) ?_;rintro e w1 ⟨A1, k1, c1, rfl, H1, hf, ex⟩;have E1 := ex; have YV := H1.1; have hk : k1 ≤ 32 := by rw [← YV]; unfold rO; split <;> (try split) <;> simp [Fp.cw]
 refine aa1 (fun YW => ?_) (fun YW => ?_)
 ·refine aU ?_;exact aa4 rfl rfl ⟨none, 0, 0, by rw [uY, if_pos Om], by rw [uY, if_pos Om]; exact Bs.nil _ _, fun _ _ h => (by cases h), E1⟩
 refine aU ?_;refine aB func250 rfl (rf A1 k1 c1 _ 251 [] (fun x => decide (x ≠ 0)) _ _ _ H1 Om func251 rfl rfl (fun x w1 _ => zG x w1)) ?_;rintro e _ ⟨rfl, ex⟩;have E2 := E1.ext ex; have H2 := H1.ext ex; have hf := hf.ext ex;refine aU ?_;refine bw rfl (fun YU => ?_) (fun YU => ?_)
 ·have hno : ¬ (rO xs ys).1.any (fun x => decide (x ≠ 0)) = true := by simpa using YU
  refine aU ?_;exact aa4 rfl rfl ⟨none, 0, 0, by rw [uY, if_neg Om, if_neg hno]; rfl, by rw [uY, if_neg Om, if_neg hno]; exact Bs.nil _ _, fun _ _ h => (by cases h), E2⟩
 have hno : (rO xs ys).1.any (fun x => decide (x ≠ 0)) = true := by simpa using YU
 refine aU ?_;exact aa4 rfl rfl ⟨A1, k1, c1, by rw [uY, if_neg Om, if_pos hno]; rfl, by rw [uY, if_neg Om, if_pos hno]; exact H2, hf, E2⟩
theorem zL (N : Nat) : ∀ i : Nat, (aY 0 N (i + 1)).1.2 = 0 ∧ (aY 0 N (i + 1)).2.2 = 0 := by
  have keyG : ∀ px pz qx qz : Fp.F, (pz = 0 ∨ px = 0) → (IE px pz qx qz 0).1.2 = 0 ∧ (IE px pz qx qz 0).2.2 = 0 := fun px pz qx qz h => by unfold IE; constructor <;> rcases h with h | h <;> subst h <;> grind
  intro i
  induction i with
  | zero =>
    by_cases h : N / 2 ^ (254 - 0) % 2 = 1
    · rw [pa h]
      have := keyG (aY 0 N 0).2.1 (aY 0 N 0).2.2 (aY 0 N 0).1.1 (aY 0 N 0).1.2 (.inr rfl)
      exact ⟨this.2, this.1⟩
    rw [pA h]
    exact keyG (aY 0 N 0).1.1 (aY 0 N 0).1.2 (aY 0 N 0).2.1 (aY 0 N 0).2.2 (.inl rfl)
  | succ i ih =>
    by_cases h : N / 2 ^ (254 - (i + 1)) % 2 = 1
    · rw [pa h]
      have := keyG (aY 0 N (i + 1)).2.1 (aY 0 N (i + 1)).2.2 (aY 0 N (i + 1)).1.1 (aY 0 N (i + 1)).1.2 (.inl ih.2)
      exact ⟨this.2, this.1⟩
    rw [pA h]
    exact keyG (aY 0 N (i + 1)).1.1 (aY 0 N (i + 1)).1.2 (aY 0 N (i + 1)).2.1 (aY 0 N (i + 1)).2.2 (.inl ih.1)
theorem CF (N : Nat) : eV N 0 = 0 := by unfold eV;rw [(zL N 254).1, Fp.inv_zero];generalize (aY 0 N 255).1.1 = x;grind
namespace Ed
open Fp
theorem rT {Q : F × F} (hQ : On Q) {u : F} (hu : u * (1 - Q.2) = 1 + Q.2) (YU : u ≠ 0) (hq : 1 - Q.2 ≠ 0) (N : Nat) (hN : N < 2 ^ 255) : ∀ i, i ≤ 255 → WX (aY u N i) (N / 2 ^ (255 - i)) Q
  | 0, _ => by
    rw [Nat.sub_zero, Nat.div_eq_of_lt hN];refine ⟨⟨?_, ?_⟩, ⟨?_, ?_⟩⟩
    · show (1 : F) - 0 = 1 * (1 + 0)
      decide +kernel
    · show (1 : F) + 0 ≠ 0
      decide +kernel
    · show u - 1 = (add O Q).2 * (u + 1)
      rw [wI];grind
    show u + 1 ≠ 0;intro _
    have : 2 * u = 0 ∧ u = -1 := ⟨by grind, by grind⟩
    have := (zero_or this.1).resolve_left mG;exact YU this
  | i + 1, hi => by
    obtain ⟨h1, h2⟩ := rT hQ hu YU hq N hN i Om;have o1 := eR hQ (N / 2 ^ (255 - i));have o2 := eR hQ (N / 2 ^ (255 - i) + 1);have e : N / 2 ^ (255 - i) = N / 2 ^ (254 - i) / 2 := by rw [Nat.div_div_eq_div_mul, ← Nat.pow_succ, show (254 - i).succ = 255 - i from Om]
    have d1 : Q.2 = (add (mul (N / 2 ^ (255 - i) + 1) Q) (neg (mul (N / 2 ^ (255 - i)) Q))).2 := by rw [Nat.add_comm, mul_add hQ, mul_one, add_assoc hQ o1 (xC o1), add_neg o1, Fk]
    have d2 : Q.2 = (add (mul (N / 2 ^ (255 - i)) Q) (neg (mul (N / 2 ^ (255 - i) + 1) Q))).2 := by rw [d1, ← IQ, neg_neg, add_comm]
    rw [show 255 - (i + 1) = 254 - i from Om]
    have s3 : mul (2 * (N / 2 ^ (255 - i)) + 1) Q = add (mul (N / 2 ^ (255 - i)) Q) (mul (N / 2 ^ (255 - i) + 1) Q) := by rw [← mul_add hQ]; congr 1; omega
    by_cases hb : N / 2 ^ (254 - i) % 2 = 1
    · rw [pa hb]
      have g1 := Rh o2 h2;have g2 := Rl o2 o1 h2 h1 d2 hu YU hq;rw [← mul_two hQ] at g1;rw [add_comm, ← s3] at g2;refine ⟨?_, ?_⟩
      · rw [show N / 2 ^ (254 - i) = 2 * (N / 2 ^ (255 - i)) + 1 from Om]; exact g2
      rw [show N / 2 ^ (254 - i) + 1 = 2 * (N / 2 ^ (255 - i) + 1) from Om]; exact g1
    rw [pA hb];have g1 := Rh o1 h1;have g2 := Rl o1 o2 h1 h2 d1 hu YU hq;rw [← mul_two hQ] at g1;rw [← s3] at g2;refine ⟨?_, ?_⟩
    · rw [show N / 2 ^ (254 - i) = 2 * (N / 2 ^ (255 - i)) from Om]; exact g1
    rw [show N / 2 ^ (254 - i) + 1 = 2 * (N / 2 ^ (255 - i)) + 1 from Om]; exact g2
theorem N5 {Q : F × F} (hQ : On Q) (h : Q.2 * Q.2 = 1) : Q.1 = 0 := by
 have hx := Vj hQ;rw [h] at hx;have hp := JX (y := Q.2);have e : (1 : F) - 1 = 0 := by decide +kernel
 rw [e] at hx;exact wX ((zero_or hx).resolve_right hp)
theorem WI : uu O = 0 := by
 unfold uu O;simp only;have h : (1 : F) - 1 = 0 := by decide +kernel
 rw [h, inv_zero];exact U5 _
theorem kG {Q : F × F} (hQ : On Q) (N : Nat) (hN : N < 2 ^ 255) (he : N % 2 = 0) : eV N (uu Q) = uu (mul N Q) := by
 by_cases YU : uu Q = 0
 ·rw [YU, CF]
  have h2 : Q.2 * Q.2 = 1 := by
   unfold uu at YU;rcases zero_or YU with h | h
   ·grind
   have h3 : 1 - Q.2 = 0 := Classical.byContradiction fun hc => Mb hc h;grind
  have hx := N5 hQ h2
  have YV : mul 2 Q = O := by
   show add (add O Q) Q = O;rw [wI]
   have : Q = neg Q := by obtain ⟨x, y⟩ := Q;unfold neg;grind
   rw [show add Q Q = add Q (neg Q) from by rw [← this], add_neg hQ]
  rw [show N = 2 * (N / 2) from Om, jg hQ, YV, FD, WI]
 have hq : 1 - Q.2 ≠ 0 := fun hc => by apply YU;unfold uu;rw [hc, inv_zero];grind
 have hu : uu Q * (1 - Q.2) = 1 + Q.2 := div_mul hq;have h := (rT hQ hu YU hq N hN 255 (Nat.le_refl _)).1;rw [Nat.sub_self, Nat.pow_zero, Nat.div_one] at h;exact Wx h
theorem Vd : uu B = of 9 := (oH (a := 1 + B.2) (b := 1 - B.2) (c := of 9) (by decide +kernel) (by decide +kernel)).symm
theorem CY (M N : Nat) (hM : M < 2 ^ 255) (hN : N < 2 ^ 255) (em : M % 2 = 0) (en : N % 2 = 0) : eV M (eV N (of 9)) = eV N (eV M (of 9)) := by rw [← Vd, kG iH N hN en, kG iH M hM em, kG (eR iH N) M hM em, kG (eR iH M) N hN en, ← jg iH, ← jg iH, Nat.mul_comm]
theorem wA : ∀ l : List UInt8, num l % 256 = (l.getD 0 0).toNat
  | [] => rfl
  | x :: l => by have := x.toNat_lt;show (x.toNat + 256 * num l) % 256 = x.toNat;omega
theorem rS (xs : Lb) : ((cQ xs).getD 0 0).toNat = ((pad xs).getD 0 0).toNat / 8 * 8 := by have hl : (pad xs).length = 32 := cJ xs;have hb := ((pad xs).getD 0 0).toNat_lt;unfold cQ;rw [List.getD_eq_getElem?_getD, List.getElem?_set_ne Om, List.getElem?_set_self Om];show (UInt8.ofNat (((pad xs).getD 0 0).toNat / 8 * 8)).toNat = _;rw [UInt8.toNat_ofNat']; omega
theorem ur (xs : Lb) : ((cQ xs).getD 31 0).toNat = ((pad xs).getD 31 0).toNat % 64 + 64 := by have hl : (pad xs).length = 32 := cJ xs;unfold cQ;rw [List.getD_eq_getElem?_getD, List.getElem?_set_self (by rw [List.length_set]; omega)];show (UInt8.ofNat (((pad xs).getD 31 0).toNat % 64 + 64)).toNat = _;rw [UInt8.toNat_ofNat']; omega
theorem lk (xs : Lb) : num (cQ xs) % 2 = 0 := by have h1 := wA (cQ xs);rw [rS] at h1;omega
theorem pF (xs : Lb) : num (cQ xs) < 2 ^ 255 := by
 rw [← Qv];have h := AX (nU xs);rw [ur] at h;have : num (cQ xs) / top = 0 := by rw [h]; omega
 exact (Nat.div_eq_zero_iff.1 this).resolve_left (by unfold top; omega)
end Ed
theorem Lw {xs : Lb} {u : Fp.F} (hx : xs.length = 32) : rO xs (Fp.le 32 u.val) = (Fp.le 32 (eV (Fp.num (cQ xs)) u).val, 0) := by rw [rO, if_neg Om, if_neg (by rw [Fp.cw]; omega), Ed.TS]
theorem NT : Fp.le 32 9 = Fp.le 32 (Fp.of 9).val := rfl
section
open Hk
theorem rF (A : Oa) (n c : Nat) (xss : List (List UInt8)) (w : aa9) (ha : sL w A n xss) (hn : n ≤ 70368744177664) (hlen : xss.flatten.length ≤ 70368744177664) :
  Ct 184 #[.slice A n c] w fun e w' => ∃ A' k c', e = .returned (.slice A' k c') ∧ Row w' w.heap.size 5 A' k c' (xss.flatten.map bv) ∧ Ext w w' :=
 (ir A n c xss w ha hn hlen).mono fun _ _ ⟨A', k, c', h1, h2, h3⟩ => ⟨A', k, c', h1, h2, h3⟩
namespace Hk
def Of : ByteArray := ⟨#[75, 69, 77, 0, 32]⟩
def CV : ByteArray := ⟨#[72, 80, 75, 69, 0, 32, 0, 1, 0, 1]⟩
def XP : ByteArray := ⟨#[100, 107, 112, 95, 112, 114, 107]⟩
def V5 : ByteArray := ⟨#[115, 107]⟩
def Yd : ByteArray := ⟨#[101, 97, 101, 95, 112, 114, 107]⟩
def XU : ByteArray := ⟨#[115, 104, 97, 114, 101, 100, 95, 115, 101, 99, 114, 101, 116]⟩
def VD : ByteArray := ⟨#[112, 115, 107, 95, 105, 100, 95, 104, 97, 115, 104]⟩
def inf : ByteArray := ⟨#[105, 110, 102, 111, 95, 104, 97, 115, 104]⟩
def sec : ByteArray := ⟨#[115, 101, 99, 114, 101, 116]⟩
def SF : ByteArray := ⟨#[107, 101, 121]⟩
def SY : ByteArray := ⟨#[98, 97, 115, 101, 95, 110, 111, 110, 99, 101]⟩
def fS (xs : Lb) : List UInt8 := exp Of (ext Of [] XP xs) V5 [] 32
def iZ (xs : Lb) : List UInt8 := (rO (fS xs) (Fp.le 32 9)).1
def VN (d enc pb : Lb) : List UInt8 := exp Of (ext Of [] Yd d) XU (enc ++ pb) 32
def yq (xs ys : Lb) : List UInt8 × Nat := if (uY xs ys).2 ≠ 0 then ([], (uY xs ys).2) else (VN (uY xs ys).1 ys (rO xs (Fp.le 32 9)).1, 0)
def ctx (is : Lb) : List UInt8 := 0 :: (ext CV [] VD [] ++ ext CV [] inf is)
def zW (s is : Lb) : List UInt8 := exp CV (ext CV s sec []) SF (ctx is) 16
def yT (s is : Lb) : List UInt8 := exp CV (ext CV s sec []) SY (ctx is) 12
end Hk
theorem CQ (nm lb : ByteArray) (xs is : Lb) (k : Nat) : (Hk.exp nm xs lb is k).length = k := Kdf.og _ _ _
theorem fV (nm lb : ByteArray) (xs ys : Lb) : (Hk.ext nm xs lb ys).length = 32 := Mac.du _ _
theorem Lq {xs : Lb} (hx : xs.length = 32) : (rO xs (Fp.le 32 9)).1.length = 32 ∧ (rO xs (Fp.le 32 9)).2 = 0 := by rw [rO, if_neg Om, if_neg (by rw [Fp.cw]; omega)]; exact ⟨Fp.cw _ _, rfl⟩
theorem dO (xs : Lb) : (fS xs).length = 32 := CQ _ _ _ _ _
theorem de (xs : Lb) : (iZ xs).length = 32 := (Lq (dO xs)).1
theorem rr (A : Oa) (n c : Nat) (xs : Lb) (w : aa9) (HA : Bs w A n xs) (hn : n ≤ 10000) :
  Ct 66 #[.slice A n c] w fun e w' => ∃ A1 c1 A2 c2, e = .returned (.tuple #[.slice A1 32 c1, .slice A2 32 c2]) ∧ Bn w.heap.size w' A1 32 (fS xs) ∧ Bn w.heap.size w' A2 32 (iZ xs) ∧ 32 ≤ c1 ∧ Ext w w' := by
 have E := Ext.refl w;refine aZ 14 func66 ?_;intro _ aa4;refine aU ?_;refine aB func137 rfl (gp Of XP none A 0 0 n c [] xs _ (Bs.nil _ _) Om HA hn (by decide) (by decide)) ?_;rintro e _ ⟨A1, c1, rfl, H1, ex⟩;replace E := E.ext ex;refine aU ?_;have z1 := E.size;refine aB func136 rfl (jP Of V5 A1 none 32 c1 0 0 32 _ [] _ H1 Om (Bs.nil _ _) Om (by decide) (by decide) Om) ?_;rintro e _ ⟨A2, c2, rfl, ⟨H2, n2⟩, YU, ex⟩;replace E := E.ext ex;refine aU ?_;have z2 := E.size;refine aB func138 rfl (tW A2 32 c2 _ _ H2) ?_;rintro e _ ⟨A3, k3, c3, rfl, H3, hf, ex⟩;obtain ⟨E,H2,n2⟩ := bh ex E H2 n2;have hl : k3 = 32 := by rw [← H3.1]; exact (Lq H2.1).1
 refine aU ?_;refine aa4 rfl rfl ?_;subst hl; exact ⟨A2, c2, A3, c3, rfl, Bn.lo ⟨H2, n2⟩ z1, Bn.lo ⟨H3, hf⟩ z2, YU, E⟩
theorem rP (A B C : Oa) (n c m d k q : Nat) (xs ys zs : Lb) (w : aa9) (HA : Bs w A n xs) (hn : n ≤ 1000) (HB : Bs w B m ys) (hm : m ≤ 1000) (HC : Bs w C k zs) (hk : k ≤ 1000) :
  Ct 220 #[.slice A n c, .slice B m d, .slice C k q] w fun e w' => ∃ A' c', e = .returned (.slice A' 32 c') ∧ Bs w' A' 32 (VN xs ys zs) ∧ Ext w w' := by
 have E := Ext.refl w;have YV := HB.1; have YW := HC.1;refine ai 14 func220 ?_;intro _ aa4;refine aU ?_;refine aB func137 rfl (gp Of Yd none A 0 0 n c [] xs _ (Bs.nil _ _) Om HA Om (by decide) (by decide)) ?_;rintro e _ ⟨A1, c1, rfl, H1, ex⟩;obtain ⟨HB,HC,E⟩ := bh ex HB HC E;refine aU ?_;refine af (aF (z := .slice none 0 0) Tn.u Kr rfl rfl rfl rfl rfl) rfl ?_;rintro _ _ ⟨_, rfl, B2, _, ex⟩;obtain ⟨HB,HC,E,H1⟩ := bG ex HB HC E H1;have S2 := qj B2 HB HC;refine aB func184 rfl (rF _ 2 2 [ys, zs] _ S2 Om So) ?_;rintro e _ ⟨A3, k3, c3, rfl, R3, ex⟩;refine aU ?_;obtain ⟨E,H1⟩ := aS ex E H1;have H3 := R3.bs; have YU := H3.1; rw [show [ys, zs].flatten = ys ++ zs by simp] at H3 YU; rw [List.length_append] at YU;refine aB func136 rfl (jP Of XU A1 A3 32 c1 k3 c3 32 _ (ys ++ zs) _ H1 Om H3 Om (by decide) (by decide) Om) ?_;rintro e _ ⟨A4, c4, rfl, ⟨H4, _⟩, _, ex⟩;replace E := E.ext ex;refine aU ?_;exact aa4 rfl ⟨A4, c4, rfl, H4, E⟩
theorem N2 (xs ys : Lb) : (rO xs ys).2 < 256 := by
 unfold rO; split
 ·show 1 < 256; omega
 split
 ·show 3 < 256; omega
 show 0 < 256; omega
theorem zM (xs ys : Lb) : (uY xs ys).2 < 256 := by
 unfold uY; split
 ·exact N2 _ _
 split
 ·show 0 < 256; omega
 show 9 < 256; omega
theorem GF (xs ys : Lb) : (rO xs ys).1.length ≤ 32 := by
 unfold rO; split
 ·exact Nat.zero_le _
 split
 ·exact Nat.zero_le _
 exact Nat.le_of_eq (Fp.cw _ _)
theorem Ex {xs : Lb} : (uY xs ys).1.length ≤ 32 := by
 unfold uY; split
 ·exact Nat.zero_le _
 split
 ·exact GF _ _
 exact Nat.zero_le _
theorem Az (A B : Oa) (n c m d : Nat) (xs ys : Lb) (w : aa9) (HA : Bs w A n xs) (_hn : n ≤ 1000) (HB : Bs w B m ys) (hm : m ≤ 1000) :
  Ct 165 #[.slice A n c, .slice B m d] w fun e w' => ∃ A' k c', e = .returned (.tuple #[.slice A' k c', .int .u8 ((yq xs ys).2 : Int)]) ∧ Bs w' A' k (yq xs ys).1 ∧ k ≤ 32 ∧ Ext w w' := by
 have E := Ext.refl w;refine aZ 28 func165 ?_;intro _ aa4;refine aU ?_;refine aB func219 rfl (qd A B n c m d xs ys _ HA HB) ?_;rintro e _ ⟨A1, k1, c1, rfl, H1, _, ex⟩;obtain ⟨HA,HB,E⟩ := bh ex HA HB E;have YV := H1.1; have YW := Ex (xs := xs) (ys := ys);refine aa1 (fun YU => ?_) (fun YU => ?_)
 ·refine aU ?_;exact aa4 rfl rfl ⟨none, 0, 0, by rw [yq, if_pos Om], by rw [yq, if_pos Om]; exact Bs.nil _ _, Om, E⟩
 refine aU ?_;refine aB func138 rfl (tW A n c xs _ HA) ?_;rintro e _ ⟨A2, k2, c2, rfl, H2, _, ex⟩;obtain ⟨HB,E,H1⟩ := bh ex HB E H1;have YX := H2.1; have YY := GF xs (Fp.le 32 9);refine aU ?_;refine aB func220 rfl (rP A1 B A2 k1 c1 m d k2 c2 _ ys _ _ H1 Om HB hm H2 Om) ?_;rintro e _ ⟨A3, c3, rfl, H3, ex⟩;replace E := E.ext ex;refine aU ?_;exact aa4 rfl rfl ⟨A3, 32, c3, by rw [yq, if_neg Om]; rfl, by rw [yq, if_neg Om]; exact H3, Om, E⟩
def yt (pb sd : Lb) : List UInt8 × List UInt8 × Nat := if (uY (fS sd) pb).2 ≠ 0 then ([], [], (uY (fS sd) pb).2) else (VN (uY (fS sd) pb).1 (iZ sd) pb, iZ sd, 0)
theorem IP (A B : Oa) (n c m d : Nat) (xs ys : Lb) (w : aa9) (HA : Bs w A n xs) (hn : n ≤ 1000) (HB : Bs w B m ys) (hm : m ≤ 1000) :
  Ct 189 #[.slice A n c, .slice B m d] w fun e w' => ∃ A' k c' A2 k2 c2, e = .returned (.tuple #[.slice A' k c', .slice A2 k2 c2, .int .u8 ((yt xs ys).2.2 : Int)]) ∧ Bs w' A' k (yt xs ys).1 ∧ Bn w.heap.size w' A2 k2 (yt xs ys).2.1 ∧ k ≤ 32 ∧ k2 ≤ 32 ∧ Ext w w' := by
 have E := Ext.refl w;refine ny 28 func189 ?_;intro _ aa4;refine aU ?_;have z1 := E.size;refine aB func66 rfl (rr B m d ys _ HB Om) ?_;rintro e _ ⟨A1, c1, A2, c2, rfl, ⟨H1, _⟩, ⟨H2, n2⟩, YU, ex⟩;obtain ⟨HA,E⟩ := aS ex HA E;refine aU ?_;refine aB func219 rfl (qd A1 A 32 c1 n c (fS ys) xs _ H1 HA) ?_;rintro e _ ⟨A3, k3, c3, rfl, H3, _, ex⟩;obtain ⟨HA,E,H2,n2⟩ := bG ex HA E H2 n2;have YV := H3.1; have YW := Ex (xs := fS ys) (ys := xs);refine aa1 (fun YU => ?_) (fun YU => ?_)
 ·refine aU ?_;exact aa4 rfl rfl rfl ⟨none, 0, 0, none, 0, 0, by rw [yt, if_pos Om], by rw [yt, if_pos Om]; exact Bs.nil _ _, by rw [yt, if_pos Om]; exact Bn.nil _ _, Om, Om, E⟩
 refine aU ?_;refine aB func220 rfl (rP A3 A2 A k3 c3 32 c2 n c _ _ xs _ H3 Om H2 Om HA hn) ?_;rintro e _ ⟨A4, c4, rfl, H4, ex⟩;obtain ⟨E,H2,n2⟩ := bh ex E H2 n2;refine aU ?_;exact aa4 rfl rfl rfl ⟨A4, 32, c4, A2, 32, c2, by rw [yt, if_neg Om]; rfl, by rw [yt, if_neg Om]; exact H4, by rw [yt, if_neg Om]; exact Bn.lo ⟨H2, n2⟩ z1, Om, Om, E⟩
end
def cN (w : aa9) (cs : Array Value) (l : List (List UInt8)) : Prop := ∃ vs : List Value, cs = vs.toArray ∧ vs.length = 12 ∧ l.length = 12 ∧ ∀ i, i < 12 → ∃ A n c, vs[i]? = some (.slice A n c) ∧ Bs w A n (l.getD i [])
theorem cN.ext (h : cN w cs l) (k : Ext w w') : cN w' cs l := by obtain ⟨vs, h1, h2, h3, h4⟩ := h;exact ⟨vs, h1, h2, h3, fun i hi => by obtain ⟨A, n, c, h5, h6⟩ := h4 i hi; exact ⟨A, n, c, h5, h6.ext k⟩⟩
theorem cN.get (h : cN w cs l) (hi : i < 12) : ∃ A n c, cs[i]? = some (.slice A n c) ∧ Bs w A n (l.getD i []) := by obtain ⟨vs, rfl, h2, h3, h4⟩ := h;obtain ⟨A, n, c, h5, h6⟩ := h4 i hi;exact ⟨A, n, c, by simpa using h5, h6⟩
theorem cN.size (h : cN w cs l) : cs.size = 12 := by obtain ⟨vs, rfl, h2, _⟩ := h; simpa using h2
theorem cN.one (h : cN w cs l) : cs.all (·.oneCell') = true := by rw [Array.all_eq_true];intro i _;obtain ⟨A, n, c, h5, _⟩ := h.get (i := i) (by have := h.size; omega);rw [Array.getElem?_eq_some_iff] at h5;obtain ⟨_, h5⟩ := h5;rw [h5]; rfl
def Gw (cs : Array Value) : Prop := ∀ (i : Nat) (v : Value), cs[i]? = some v → ∃ A n c, v = Value.slice A n c
theorem cN.sl (h : cN w cs l) : Gw cs := fun i v hv => by have hi : i < cs.size := (Array.getElem?_eq_some_iff.1 hv).1;obtain ⟨A, n, c, h5, _⟩ := h.get (i := i) (by have := h.size; omega);rw [h5] at hv; injection hv with hv; exact ⟨A, n, c, hv.symm⟩
theorem Bs.sl {xs : Lb} (h : Bs w A n xs) (B : aq w g t cs) (hs : Gw cs) (cg : mi w g w') : Bs w' A n xs := by
 rcases Nat.eq_zero_or_pos n with h0 | h0
 ·subst h0;have : xs = [] := List.length_eq_zero_iff.1 h.1;subst this;exact Bs.nil w' A
 refine h.aw cg fun b off hA e => ?_;obtain ⟨b', YV, YU, _, hc⟩ := h.get h0;rw [hA] at YU;injection YU with YU
 injection YU with YU _ _
 subst YU;rw [e, B.cell] at hc;obtain ⟨A, n, c, hv⟩ := hs _ _ hc;cases hv
theorem cN.put {xs : Lb} (h : cN w cs l) (B : aq w g t cs) (cg : mi w g w') (hx : Bs w A n xs) (hi : i < 12) : cN w' (cs.setIfInBounds i (Value.slice A n c)) (l.set i xs) := by
 have Qt := h.sl;obtain ⟨vs, rfl, h2, h3, h4⟩ := h;refine ⟨vs.set i (.slice A n c), by simp, by simpa using h2, by simpa using h3, fun j hj => ?_⟩;by_cases e : i = j
 ·subst e;exact ⟨A, n, c, by rw [List.getElem?_set_self Om], by rw [List.getD_eq_getElem?_getD, List.getElem?_set_self Om]; exact hx.sl B Qt cg⟩
 obtain ⟨A', n', c', h5, h6⟩ := h4 j hj;exact ⟨A', n', c', by rw [List.getElem?_set_ne e]; exact h5, by rw [List.getD_eq_getElem?_getD, List.getElem?_set_ne e, ← List.getD_eq_getElem?_getD]; exact h6.sl B Qt cg⟩
def fk : Nat → ByteArray
 | 0 => ⟨#[115, 101, 110, 100, 101, 114, 32, 100, 97, 116, 97]⟩
 | 1 => ⟨#[101, 110, 99, 114, 121, 112, 116, 105, 111, 110]⟩
 | 2 => ⟨#[101, 120, 112, 111, 114, 116, 101, 114]⟩
 | 3 => ⟨#[97, 117, 116, 104, 101, 110, 116, 105, 99, 97, 116, 105, 111, 110]⟩
 | 4 => ⟨#[101, 120, 116, 101, 114, 110, 97, 108]⟩
 | 5 => ⟨#[99, 111, 110, 102, 105, 114, 109]⟩
 | 6 => ⟨#[109, 101, 109, 98, 101, 114, 115, 104, 105, 112]⟩
 | 7 => ⟨#[114, 101, 115, 117, 109, 112, 116, 105, 111, 110]⟩
 | 8 => ⟨#[105, 110, 105, 116]⟩
 | _ => ⟨#[]⟩
theorem eJ (i : Nat) : (fk i).size ≤ 1048576 := by unfold fk;split <;> decide
def ko : ByteArray := ⟨#[119, 101, 108, 99, 111, 109, 101]⟩
def Dy : ByteArray := ⟨#[101, 112, 111, 99, 104]⟩
def qU (j : Lb) : List UInt8 := Mac.tag j (List.replicate 32 0)
def tj (j : Lb) (c : Ctx) : List UInt8 := Kdf.label (qU j) Dy.data.toList (cy c) 32
def sS (e : Lb) (i : Nat) : List UInt8 := Kdf.label e (fk i).data.toList [] 32
def dD (j : Lb) (c : Ctx) : List (List UInt8) := [j, Kdf.label (qU j) ko.data.toList [] 32, tj j c] ++ (List.range 9).map (sS (tj j c))
theorem dL (k s c : Lb) (n : Nat) : (Kdf.label k s c n).length = n := by unfold Kdf.label; exact Kdf.og _ _ _
theorem lu (A B : Oa) (n c m d k : Nat) (s : ByteArray) (ks cs : Lb) (w : aa9) (HA : Bs w A n ks) (hn : n ≤ 35184372088832) (hs : s.size ≤ 1048576) (HB : Bs w B m cs) (hm : m ≤ 1048576) (hk : k ≤ 8160) :
  Ct 98 #[.slice A n c, .string s, .slice B m d, .int .i64 (k : Int)] w fun e w' => ∃ A' c', e = .returned (.slice A' k c') ∧ Bs w' A' k (Kdf.label ks s.data.toList cs k) ∧ Ext w w' := by
 refine ai 20 func98 ?_;intro _ aa4;refine aU ?_;refine aB func130 rfl (ri A B n c m d k s ks cs _ HA hn hs HB hm hk) ?_;rintro e _ ⟨A1, c1, rfl, ⟨H1, _⟩, _, ex⟩;refine aU ?_;exact aa4 rfl ⟨A1, c1, rfl, H1, ex⟩
def mx (g : Nat) : Array Value := #[.string (fk 0), .pointer (some ⟨g, 3, none⟩), .string (fk 1), .pointer (some ⟨g, 4, none⟩), .string (fk 2), .pointer (some ⟨g, 5, none⟩), .string (fk 3), .pointer (some ⟨g, 6, none⟩), .string (fk 4), .pointer (some ⟨g, 7, none⟩), .string (fk 5), .pointer (some ⟨g, 8, none⟩), .string (fk 6), .pointer (some ⟨g, 9, none⟩), .string (fk 7), .pointer (some ⟨g, 10, none⟩), .string (fk 8), .pointer (some ⟨g, 11, none⟩)]
theorem Uv (g : Nat) (h : i < 9) : (mx g)[2 * i]? = some (.string (fk i)) ∧ (mx g)[2 * i + 1]? = some (.pointer (some ⟨g, 3 + i, none⟩)) := by
 match i, h with
 | 0, _ => exact ⟨rfl, rfl⟩
 | 1, _ => exact ⟨rfl, rfl⟩
 | 2, _ => exact ⟨rfl, rfl⟩
 | 3, _ => exact ⟨rfl, rfl⟩
 | 4, _ => exact ⟨rfl, rfl⟩
 | 5, _ => exact ⟨rfl, rfl⟩
 | 6, _ => exact ⟨rfl, rfl⟩
 | 7, _ => exact ⟨rfl, rfl⟩
 | 8, _ => exact ⟨rfl, rfl⟩
theorem Ao (g : Nat) (w : aa9) :
  Ct 102 #[.pointer (cf g)] w fun e w' => ∃ gt, e = .returned (.slice (cf gt) 9 9) ∧ aq w' gt 159 (mx g) ∧ w.heap.size ≤ gt ∧ Ext w w' := by
 have E := Ext.refl w;refine ai 40 func102 ?_;intro _ aa4;refine aU ?_;refine aD Kr 38 rfl ?_; intro YU ex YV;replace E := E.ext ex;refine zm [0, 1, 2] ?_;refine my 3 rfl (aA rfl (cells := #[.string (fk 0), .pointer (some ⟨g, 3, none⟩)]) Kr) ?_;refine zm [4, 5, 6] ?_;refine my 7 rfl (aA rfl (cells := #[.string (fk 1), .pointer (some ⟨g, 4, none⟩)]) Kr) ?_;refine zm [8, 9, 10] ?_;refine my 11 rfl (aA rfl (cells := #[.string (fk 2), .pointer (some ⟨g, 5, none⟩)]) Kr) ?_;refine zm [12, 13, 14] ?_;refine my 15 rfl (aA rfl (cells := #[.string (fk 3), .pointer (some ⟨g, 6, none⟩)]) Kr) ?_;refine zm [16, 17, 18] ?_;refine my 19 rfl (aA rfl (cells := #[.string (fk 4), .pointer (some ⟨g, 7, none⟩)]) Kr) ?_;refine zm [20, 21, 22] ?_;refine my 23 rfl (aA rfl (cells := #[.string (fk 5), .pointer (some ⟨g, 8, none⟩)]) Kr) ?_;refine zm [24, 25, 26] ?_;refine my 27 rfl (aA rfl (cells := #[.string (fk 6), .pointer (some ⟨g, 9, none⟩)]) Kr) ?_;refine zm [28, 29, 30] ?_;refine my 31 rfl (aA rfl (cells := #[.string (fk 7), .pointer (some ⟨g, 10, none⟩)]) Kr) ?_;refine zm [32, 33, 34] ?_;refine my 35 rfl (aA rfl (cells := #[.string (fk 8), .pointer (some ⟨g, 11, none⟩)]) Kr) ?_;refine aR 36 Kr ?_; refine bE rfl (sM (cells := mx g) Tn.u rfl Kr) rfl ?_;rintro _ _ ⟨gt, rfl, B1, _, ex⟩;refine ⟨.inr ex, ?_⟩;replace E := E.ext ex;refine zm [37] ?_;refine aa4 rfl ?_;have h2 : YU.heap.size = w.heap.size := by rw [YV]
 exact ⟨gt, rfl, B1, Om, E⟩
theorem cN.aw (h : cN w cs l) (B : aq w g t ds) (hs : Gw ds) (cg : mi w g w') : cN w' cs l := by obtain ⟨vs, h1, h2, h3, h4⟩ := h;exact ⟨vs, h1, h2, h3, fun i hi => by obtain ⟨A, n, c, h5, h6⟩ := h4 i hi; exact ⟨A, n, c, h5, h6.sl B hs cg⟩⟩
theorem cN.congr (h : cN w cs l) (e : l = l') : cN w cs l' := e ▸ h
def Jn : Array Value := #[.slice none 0 0, .slice none 0 0, .slice none 0 0, .slice none 0 0, .slice none 0 0, .slice none 0 0, .slice none 0 0, .slice none 0 0, .slice none 0 0, .slice none 0 0, .slice none 0 0, .slice none 0 0]
theorem EG : Gw Jn := fun i v hv => by
 match i, hv with
 | 0, hv => injection hv with hv; exact ⟨_, _, _, hv.symm⟩
 | 1, hv => injection hv with hv; exact ⟨_, _, _, hv.symm⟩
 | 2, hv => injection hv with hv; exact ⟨_, _, _, hv.symm⟩
 | 3, hv => injection hv with hv; exact ⟨_, _, _, hv.symm⟩
 | 4, hv => injection hv with hv; exact ⟨_, _, _, hv.symm⟩
 | 5, hv => injection hv with hv; exact ⟨_, _, _, hv.symm⟩
 | 6, hv => injection hv with hv; exact ⟨_, _, _, hv.symm⟩
 | 7, hv => injection hv with hv; exact ⟨_, _, _, hv.symm⟩
 | 8, hv => injection hv with hv; exact ⟨_, _, _, hv.symm⟩
 | 9, hv => injection hv with hv; exact ⟨_, _, _, hv.symm⟩
 | 10, hv => injection hv with hv; exact ⟨_, _, _, hv.symm⟩
 | 11, hv => injection hv with hv; exact ⟨_, _, _, hv.symm⟩
 | i + 12, hv => simp [Jn] at hv
def j7 (j W e : Lb) (i : Nat) : List (List UInt8) := [j, W, e] ++ (List.range i).map (sS e) ++ List.replicate (9 - i) []
theorem Es (j W e : Lb) (h : i < 9) : (j7 j W e i).set (3 + i) (sS e i) = j7 j W e (i + 1) := by unfold j7;rw [List.set_append_right _ _ So, List.range_succ, List.map_append];simp only [List.length_append, List.length_cons, List.length_nil, List.length_map, List.length_range];rw [show 3 + i - (0 + 1 + 1 + 1 + i) = 0 by omega, show 9 - i = (9 - (i + 1)) + 1 by omega, List.replicate_succ, List.set_cons_zero];simp
theorem Df (j W e : Lb) (i : Nat) : (j7 j W e i).getD 2 [] = e := rfl
theorem Av {B : Oa} {d : Nat} {xs : Lb} (HA : Bs w A n xs) (HB : Bs w B m ys) : cN w #[.slice A n c, .slice B m d, .slice none 0 0, .slice none 0 0, .slice none 0 0, .slice none 0 0, .slice none 0 0, .slice none 0 0, .slice none 0 0, .slice none 0 0, .slice none 0 0, .slice none 0 0] (j7 xs ys [] 0) := by
 refine ⟨_, rfl, rfl, rfl, fun i hi => ?_⟩
 match i, hi with
 | 0, _ => exact ⟨A, n, c, rfl, HA⟩
 | 1, _ => exact ⟨B, m, d, rfl, HB⟩
 | 2, _ => exact ⟨none, 0, 0, rfl, Bs.nil _ _⟩
 | 3, _ => exact ⟨none, 0, 0, rfl, Bs.nil _ _⟩
 | 4, _ => exact ⟨none, 0, 0, rfl, Bs.nil _ _⟩
 | 5, _ => exact ⟨none, 0, 0, rfl, Bs.nil _ _⟩
 | 6, _ => exact ⟨none, 0, 0, rfl, Bs.nil _ _⟩
 | 7, _ => exact ⟨none, 0, 0, rfl, Bs.nil _ _⟩
 | 8, _ => exact ⟨none, 0, 0, rfl, Bs.nil _ _⟩
 | 9, _ => exact ⟨none, 0, 0, rfl, Bs.nil _ _⟩
 | 10, _ => exact ⟨none, 0, 0, rfl, Bs.nil _ _⟩
 | 11, _ => exact ⟨none, 0, 0, rfl, Bs.nil _ _⟩
theorem wZ (j W e : Lb) : (j7 j W [] 0).set 2 e = j7 j W e 0 := rfl
theorem DQ (j : Lb) (c : Ctx) : j7 j (Kdf.label (qU j) ko.data.toList [] 32) (tj j c) 9 = dD j c := by unfold j7 dD; simp
theorem sY (B : aq w g t (List.replicate 32 (Value.int .u8 0)).toArray) : Bs w (cf g) 32 (List.replicate 32 0) := aX (B.congr (by rfl)) (by simp)
theorem Fh (A : Oa) (n c : Nat) (xs : Lb) (cs : Array Value) (x : Ctx) (w : aa9) (HA : Bs w A n xs) (hn : n ≤ 1000) (H : gU w cs x) (hs : x.Small) :
  Ct 41 #[.slice A n c, .agg cs] w fun e w' => ∃ ds, e = .returned (.agg ds) ∧ cN w' ds (dD xs x) ∧ Ext w w' := by
 have hz := H.size;have E := Ext.refl w
 obtain ⟨W, hW⟩ : ∃ W, W = Kdf.label (qU xs) ko.data.toList [] 32 := ⟨_, rfl⟩
 obtain ⟨ep, hep⟩ : ∃ e, e = tj xs x := ⟨_, rfl⟩
 have hepl : ep.length = 32 := by rw [hep]; exact dL _ _ _ _
 refine aH (s := 12) 38 func41 rfl rfl rfl underlying44 rfl Kr rfl ?_;intro _ aa4;refine au 2 ?_;refine af (mw (cs := cs) rfl rfl) rfl ?_;rintro _ _ ⟨_, rfl, B3, _, ex⟩;obtain ⟨E,HA,H⟩ := bh ex E HA H;have E0 := E;refine af (dG (Z := Jn) Kr) rfl ?_;rintro _ _ ⟨g4, rfl, B4, Zf, ex⟩;obtain ⟨E,HA,H,B3⟩ := bG ex E HA H B3;have Zg := Nat.le_trans E0.size Zf;refine au 5 ?_;refine af (dC (n := 32) (z := .int .u8 0) (bytes := 1) rfl rfl Tn.u Kr rfl rfl rfl rfl Om Om) rfl ?_;rintro _ _ ⟨_, rfl, BZ, _, ex⟩;obtain ⟨E,HA,H,B3,B4⟩ := fR ex E HA H B3 B4;have HZ := sY BZ;refine aB func99 rfl (rE A _ n c 32 32 xs _ _ HA Om HZ Om) ?_;rintro e _ ⟨A5, c5, rfl, H5, ex⟩;obtain ⟨E,HA,H,B3,B4⟩ := fR ex E HA H B3 B4;refine au 7 ?_;refine aB func100 rfl (Ds A n c xs _ HA Om) ?_;rintro e _ ⟨A6, c6, rfl, H6, _, ex⟩;obtain ⟨E,H,B3,B4,H5⟩ := fR ex E H B3 B4 H5;refine au 2 ?_;refine aB func67 rfl (jB A5 32 c5 ko _ _ H5 Om (by decide)) ?_;rintro e w6 ⟨A7, c7, rfl, ⟨H7, _⟩, ex⟩;refine au 1 ?_;obtain ⟨E,H,B3,B4,H5,H6⟩ := iz ex E H B3 B4 H5 H6;replace H7 : Bs w6 A7 32 W := by rw [hW]; exact H7
 refine ak (aA rfl (cells := #[.slice A6 n c6, .slice A7 32 c7, .slice none 0 0, .slice none 0 0, .slice none 0 0, .slice none 0 0, .slice none 0 0, .slice none 0 0, .slice none 0 0, .slice none 0 0, .slice none 0 0, .slice none 0 0]) Kr) ?_;have YX := E;have Zb := H;have YY := B3;have YW := B4;have YZ := H5;have Y0 := H6;have Y2 := H7;refine af (dG (Z := Jn) Kr) rfl ?_;rintro _ _ ⟨g6, rfl, YU, Zc, ex⟩;have YV := ex;obtain ⟨E,H,B3,B4,H5,H6,H7⟩ := iW ex E H B3 B4 H5 H6 H7;have Ze := Nat.le_trans YX.size Zc; have Zp := Nat.lt_of_lt_of_le YW.lt Zc;refine af (ag rfl rfl Kr YU rfl (by simp [Value.oneCell'])) rfl ?_;rintro _ _ ⟨rfl, YU, cg⟩;replace YV := YV.aw cg Zc;replace E := YX.ext YV;replace H := Zb.ext YV;replace B3 := YY.ext YV;replace B4 := YW.ext YV;replace H5 := YZ.ext YV;replace H6 := Y0.ext YV;replace H7 := Y2.ext YV;have HS := Av (c := c6) (d := c7) H6 H7;refine au 5 ?_;refine ak (aP rfl Tn.u rfl (by rw [hz]; kernel_rfl) B3) ?_;refine aB func101 rfl (xv cs x _ H hs) ?_;rintro e _ ⟨A8, k8, c8, rfl, H8, _, ex⟩;obtain ⟨E,B4,H5,YU,HS⟩ := fR ex E B4 H5 YU HS;refine au 1 ?_;refine aB func98 rfl (lu A5 A8 32 c5 k8 c8 32 Dy _ _ _ H5 Om (by decide) H8 Om Om) ?_;rintro e w9 ⟨A9, c9, rfl, H9, ex⟩;refine au 1 ?_;obtain ⟨E,B4,YU,HS⟩ := bG ex E B4 YU HS;replace H9 : Bs w9 A9 32 ep := by rw [hep]; exact H9
 refine ak (eW 2 1 0 2 Tn.u) ?_;refine af (az rfl rfl rfl Kr YU (by rw [HS.size]; omega)) rfl ?_;rintro _ _ ⟨rfl, Zh, cg⟩;replace E := E.aw cg Ze; replace B4 := B4.aw cg Om; replace HS := (HS.put YU cg H9 (c := c9) (i := 2) Om).congr (wZ xs W ep); replace YU := Zh;refine au 5 ?_;have Zq := YU.lt;refine aB func102 rfl (Ao g6 _) ?_;rintro e _ ⟨gt, rfl, BT, _, ex⟩;obtain ⟨E,B4,YU,HS⟩ := bG ex E B4 YU HS;have Zr : g6 < gt := Om
 refine au 6 ?_;refine aE (fun n' L wr => ∃ (i : Nat) (ds : Array Value), L = [(4, .pointer (cf g4)), (6, .pointer (cf g6)), (22, .slice (cf gt) 9 9), (23, .int .i64 ((9 : Nat) : Int)), (24, .int .i64 (i : Int))] ∧ n' = 9 - i ∧ (i ≤ 9 ∧ Ext w wr ∧ aq wr g4 44 Jn ∧ aq wr g6 44 ds ∧ cN wr ds (j7 xs W ep i) ∧ aq wr gt 159 (mx g6))) _ _ ⟨0, _, rfl, rfl, Om, E, B4, YU, HS, BT⟩ Ls ?_;rintro _ n' L wr ⟨i, ds, rfl, rfl, _, E, B4, B6, HS, BT⟩ Zi;refine au 2 ?_;refine ak (fB rfl rfl) ?_;refine au 3 ?_;refine al rfl (fun Zj => ?_) (fun Zj => ?_)
 ·have htab := Uv g6 (i := i) Om;refine au 6 ?_;refine ak (Mu (s := 2) rfl rfl Tn.u Kr (j := i) rfl Om) ?_;refine ak ((ew (cs := #[.string (fk i), .pointer (some ⟨g6, 3 + i, none⟩)]) rfl Tn.u rfl Kr (fun j v hv => by rw [Addr.add_plain, BT.cell, Nat.zero_add, Nat.mul_comm]; match j, hv with | 0, hv => injection hv with hv; rw [← hv]; exact htab.1 | 1, hv => injection hv with hv; rw [← hv]; exact htab.2 | j + 2, hv => simp at hv))) ?_;have E_gx := E;have Y3 := B4;have Za := B6;have HS_gx := HS;have BT_gx := BT;refine af (dG (Z := #[.string ⟨#[]⟩, .pointer none]) Kr) rfl ?_;rintro _ _ ⟨_, rfl, Bgx, hgx, ex⟩;have Xgx := ex;obtain ⟨E,B4,B6,HS,BT⟩ := fR ex E B4 B6 HS BT;refine af (ag rfl rfl Kr Bgx rfl (by simp [Value.oneCell'])) rfl ?_;rintro _ _ ⟨rfl, Bgx, cg⟩;replace Xgx := Xgx.aw cg hgx;replace E := E_gx.ext Xgx;replace B4 := Y3.ext Xgx;replace B6 := Za.ext Xgx;replace HS := HS_gx.ext Xgx;replace BT := BT_gx.ext Xgx;refine au 2 ?_;refine aD Kr 9 rfl ?_; intro Zs ex Zt;obtain ⟨E,B4,B6,HS,BT,Bgx⟩ := iz ex E B4 B6 HS BT Bgx;obtain ⟨Ae, ne, ce, hce, He⟩ := HS.get (i := 2) Om;rw [Df] at He;have hne : ne = 32 := by rw [← He.1]; exact hepl
  refine dF 0 rfl (fun _ => eW 1 1 0 1 Tn.u) ?_;refine my 1 rfl (ah rfl Tn.u rfl (Bgx.get (i := 1) rfl)) ?_;refine dF 2 rfl (fun _ => eW 2 1 0 2 Tn.u) ?_;refine my 3 rfl (ah rfl Tn.u rfl (B6.get hce)) ?_;refine dF 4 rfl (fun _ => eW 0 1 0 0 Tn.u) ?_;refine my 5 rfl (ah rfl Tn.u rfl (Bgx.get (i := 0) rfl)) ?_;refine bC 6 rfl func67 rfl (jB Ae ne ce (fk i) ep _ He Om (eJ i)) ?_;rintro e _ ⟨_, Zk, rfl, ⟨Zl, _⟩, ex⟩;obtain ⟨E,B4,B6,HS,BT⟩ := fR ex E B4 B6 HS BT;refine au 1 ?_;refine dF 7 rfl (fun _ => NP rfl) ?_;refine aR 8 Kr ?_; refine bE rfl (az rfl rfl rfl Kr B6 (by rw [HS.size]; omega)) rfl ?_;rintro _ _ ⟨rfl, Zm, cg⟩;refine ⟨.inl rfl, ?_⟩;replace E := E.aw cg Ze; replace B4 := B4.aw cg Om; replace BT := BT.aw cg Om; replace HS := (HS.put B6 cg Zl (c := Zk) (i := 3 + i) Om).congr (Es xs W ep Om);refine pE Kr ?_;refine au 4 ?_;refine ak (aO rfl rfl (bj Om Om)) ?_;refine au 2 ?_;refine ae ?_;refine Zi _ _ ⟨i + 1, _, rfl, rfl, Om, E, B4, Zm, HS, BT⟩ Om Ls
 refine au 7 ?_;refine ak (aP rfl Tn.u rfl (by rw [HS.size]; kernel_rfl) B6) ?_;refine af (ag rfl rfl (by rw [HS.size]; kernel_rfl) B4 (by rw [HS.size]; rfl) HS.one) rfl ?_;rintro _ _ ⟨rfl, Zn, cg⟩;have Zo := E.aw cg Zg; have Zd := HS.aw B4 EG cg;refine au 3 ?_;exact aa4 rfl Zn HS.size ⟨ds, rfl, Zd.congr (by rw [show i = 9 by omega, hW, hep]; exact DQ xs x), Zo⟩
theorem Hu (A B : Oa) (n m c d : Nat) (xs ys : Lb) (w : aa9) (ha : Bs w A n xs) (hb : Bs w B m ys) (hn : n ≤ 140737488355328) (hm : m ≤ 140737488355328) :
  Ct 26 #[.slice A n c, .slice B m d] w fun e w' => e = .returned (.bool (decide (xs = ys))) ∧ Ext w w' :=
 (zh A B n m c d xs ys w ha hb hn hm).mono fun _ _ ⟨h, k, hk⟩ => ⟨h, hk ▸ Ext.drewN w k⟩
theorem dE (A : Oa) (n c : Nat) (s : ByteArray) (ks : Lb) (w : aa9) (HA : Bs w A n ks) (hn : n ≤ 35184372088832) (hs : s.size ≤ 1048576) :
  Ct 51 #[.slice A n c, .string s] w fun e w' => ∃ A' c', e = .returned (.slice A' 32 c') ∧ Bs w' A' 32 (Kdf.label ks s.data.toList [] 32) ∧ Ext w w' := by
 refine ai 8 func51 ?_;intro _ aa4;refine aU ?_;refine aB func47 rfl (pR A none n c 0 0 32 s ks [] _ HA hn hs (Bs.nil _ _) Om Om) ?_;rintro e _ ⟨A1, c1, rfl, H1, ex⟩;refine aU ?_;exact aa4 rfl ⟨A1, c1, rfl, H1, ex⟩
theorem rB (A : Oa) (n c : Nat) (xs : Lb) (w : aa9) (HA : Bs w A n xs) (hn : n ≤ 1000) :
  Ct 48 #[.slice A n c] w fun e w' => ∃ A' c', e = .returned (.slice A' 32 c') ∧ Bs w' A' 32 (qU xs) ∧ Ext w w' := by
 refine ai 6 func48 ?_;intro _ aa4;refine aU ?_;refine af (dC (n := 32) (z := .int .u8 0) (bytes := 1) rfl rfl Tn.u Kr rfl rfl rfl rfl Om Om) rfl ?_;rintro _ _ ⟨_, rfl, BZ, _, ex⟩;replace HA := HA.ext ex;have HZ := sY BZ; have E1 := ex;refine aB func18 rfl (kJ A _ n c 32 32 xs _ _ HA Om HZ Om) ?_;rintro e _ ⟨A2, c2, rfl, R2, ex⟩;have E2 := E1.ext ex;refine aU ?_;exact aa4 rfl ⟨A2, c2, rfl, R2.bs, E2⟩
theorem DL (A : Oa) (n c : Nat) (xs : Lb) (cs : Array Value) (x : Ctx) (w : aa9) (HA : Bs w A n xs) (hn : n ≤ 1000) (H : gU w cs x) (hs : x.Small) :
  Ct 50 #[.slice A n c, .agg cs] w fun e w' => ∃ A' c', e = .returned (.slice A' 32 c') ∧ Bs w' A' 32 (tj xs x) ∧ Ext w w' := by
 have hz := H.size;have E := Ext.refl w;refine ai 10 func50 ?_;intro _ aa4;refine aU ?_;intro w1 g1 (B1 : aq _ _ _ (cs)) YU ex;obtain ⟨E,HA,H⟩ := bh ex E HA H;refine aU ?_;refine aD Kr 6 rfl ?_; intro YV ex YW;obtain ⟨E,HA,H,B1⟩ := bG ex E HA H B1;refine zm [0] ?_;refine my 2 rfl (aP rfl Tn.u rfl (by rw [hz]; kernel_rfl) B1) ?_;refine bC 1 rfl func48 rfl (rB A n c xs _ HA hn) ?_;rintro e _ ⟨A2, c2, rfl, H2, ex⟩;obtain ⟨E,H⟩ := aS ex E H;refine aU ?_;refine bC 3 rfl func119 rfl (uU cs x _ H hs) ?_;rintro e _ ⟨A3, k3, c3, rfl, R3, _, ex⟩;obtain ⟨E,H2⟩ := aS ex E H2;refine aU ?_;refine bC 4 rfl func47 rfl (pR A2 A3 32 c2 k3 c3 32 Dy _ _ _ H2 Om (by decide) R3.bs Om Om) ?_;rintro e _ ⟨A4, c4, rfl, H4, ex⟩;replace E := E.ext ex;refine zm [5] ?_;exact aa4 rfl ⟨A4, c4, rfl, H4, E⟩
theorem IM {A0 A1 A2 A3 A4 A5 A6 A7 A8 A9 YU YV : Oa} {n0 n1 n2 n3 n4 n5 n6 n7 n8 n9 YW YX c0 c1 c2 c3 c4 c5 c6 c7 c8 c9 c10 c11 : Nat} {x0 x1 x2 x3 x4 x5 x6 x7 x8 x9 YY YZ : Lb}
  (h0 : Bs w A0 n0 x0) (h1 : Bs w A1 n1 x1) (h2 : Bs w A2 n2 x2) (h3 : Bs w A3 n3 x3) (h4 : Bs w A4 n4 x4) (h5 : Bs w A5 n5 x5) (h6 : Bs w A6 n6 x6) (h7 : Bs w A7 n7 x7) (h8 : Bs w A8 n8 x8) (h9 : Bs w A9 n9 x9) (Y0 : Bs w YU YW YY) (Y2 : Bs w YV YX YZ) :
  cN w #[.slice A0 n0 c0, .slice A1 n1 c1, .slice A2 n2 c2, .slice A3 n3 c3, .slice A4 n4 c4, .slice A5 n5 c5, .slice A6 n6 c6, .slice A7 n7 c7, .slice A8 n8 c8, .slice A9 n9 c9, .slice YU YW c10, .slice YV YX c11] [x0, x1, x2, x3, x4, x5, x6, x7, x8, x9, YY, YZ] := by
 refine ⟨_, rfl, rfl, rfl, fun i hi => ?_⟩
 match i, hi with
 | 0, _ => exact ⟨_, _, _, rfl, h0⟩
 | 1, _ => exact ⟨_, _, _, rfl, h1⟩
 | 2, _ => exact ⟨_, _, _, rfl, h2⟩
 | 3, _ => exact ⟨_, _, _, rfl, h3⟩
 | 4, _ => exact ⟨_, _, _, rfl, h4⟩
 | 5, _ => exact ⟨_, _, _, rfl, h5⟩
 | 6, _ => exact ⟨_, _, _, rfl, h6⟩
 | 7, _ => exact ⟨_, _, _, rfl, h7⟩
 | 8, _ => exact ⟨_, _, _, rfl, h8⟩
 | 9, _ => exact ⟨_, _, _, rfl, h9⟩
 | 10, _ => exact ⟨_, _, _, rfl, Y0⟩
 | 11, _ => exact ⟨_, _, _, rfl, Y2⟩
theorem L6 (A : Oa) (n c : Nat) (xs : Lb) (cs : Array Value) (x : Ctx) (w : aa9) (HA : Bs w A n xs) (hn : n ≤ 1000) (H : gU w cs x) (hs : x.Small) :
  Ct 17 #[.slice A n c, .agg cs] w fun e w' => ∃ ds, e = .returned (.agg ds) ∧ cN w' ds (dD xs x) ∧ Ext w w' := by
 have hz := H.size;have E := Ext.refl w;refine aH (s := 12) 33 func17 rfl rfl rfl underlying44 rfl Kr rfl ?_;intro _ aa4;refine aU ?_;intro w1 g3 (B3 : aq _ _ _ (cs)) Za ex;obtain ⟨E,HA,H⟩ := bh ex E HA H;have E0 := E;refine aU ?_;intro w2 g4 (B4 : aq _ _ _ (Jn)) YW ex;obtain ⟨E,HA,H,B3⟩ := bG ex E HA H B3;have YX := Nat.le_trans E0.size YW;refine au 5 ?_;refine ak (aP rfl Tn.u rfl (by rw [hz]; kernel_rfl) B3) ?_;refine aB func50 rfl (DL A n c xs cs x _ HA hn H hs) ?_;rintro e _ ⟨Ae, ce, rfl, He, ex⟩;obtain ⟨E,HA,B4⟩ := bh ex E HA B4;refine aU ?_;refine aB func48 rfl (rB A n c xs _ HA hn) ?_;rintro e _ ⟨Am, cm, rfl, Hm, ex⟩;obtain ⟨E,HA,B4,He⟩ := bG ex E HA B4 He;refine aU ?_;refine aB func51 rfl (dE Am 32 cm ko _ _ Hm Om (by decide)) ?_;rintro e _ ⟨A1, c1, rfl, H1, ex⟩;obtain ⟨E,HA,B4,He⟩ := bG ex E HA B4 He;refine aU ?_;refine aB func51 rfl (dE Ae 32 ce (fk 0) _ _ He Om (eJ 0)) ?_;rintro e _ ⟨A3, c3, rfl, H3, ex⟩;obtain ⟨E,HA,B4,He,H1⟩ := fR ex E HA B4 He H1;refine aU ?_;refine aB func51 rfl (dE Ae 32 ce (fk 1) _ _ He Om (eJ 1)) ?_;rintro e _ ⟨A4, c4, rfl, H4, ex⟩;obtain ⟨E,HA,B4,He,H1,H3⟩ := iz ex E HA B4 He H1 H3;refine aU ?_;refine aB func51 rfl (dE Ae 32 ce (fk 2) _ _ He Om (eJ 2)) ?_;rintro e _ ⟨A5, c5, rfl, H5, ex⟩;obtain ⟨E,HA,B4,He,H1,H3,H4⟩ := iW ex E HA B4 He H1 H3 H4;refine aU ?_;refine aB func51 rfl (dE Ae 32 ce (fk 3) _ _ He Om (eJ 3)) ?_;rintro e _ ⟨A6, c6, rfl, H6, ex⟩;obtain ⟨E,HA,B4,He,H1,H3,H4,H5⟩ := GC ex E HA B4 He H1 H3 H4 H5;refine aU ?_;refine aB func51 rfl (dE Ae 32 ce (fk 4) _ _ He Om (eJ 4)) ?_;rintro e _ ⟨A7, c7, rfl, H7, ex⟩;obtain ⟨E,HA,B4,He,H1,H3,H4,H5,H6⟩ := uX ex E HA B4 He H1 H3 H4 H5 H6;refine aU ?_;refine aB func51 rfl (dE Ae 32 ce (fk 5) _ _ He Om (eJ 5)) ?_;rintro e _ ⟨A8, c8, rfl, H8, ex⟩;obtain ⟨E,HA,B4,He,H1,H3,H4,H5,H6⟩ := uX ex E HA B4 He H1 H3 H4 H5 H6;replace H7 := H7.ext ex;refine aU ?_;refine aB func51 rfl (dE Ae 32 ce (fk 6) _ _ He Om (eJ 6)) ?_;rintro e _ ⟨A9, c9, rfl, H9, ex⟩;obtain ⟨E,HA,B4,He,H1,H3,H4,H5,H6⟩ := uX ex E HA B4 He H1 H3 H4 H5 H6;obtain ⟨H7,H8⟩ := aS ex H7 H8;refine aU ?_;refine aB func51 rfl (dE Ae 32 ce (fk 7) _ _ He Om (eJ 7)) ?_;rintro e _ ⟨YY, c10, rfl, YU, ex⟩;obtain ⟨E,HA,B4,He,H1,H3,H4,H5,H6⟩ := uX ex E HA B4 He H1 H3 H4 H5 H6;obtain ⟨H7,H8,H9⟩ := bh ex H7 H8 H9;refine aU ?_;refine aB func51 rfl (dE Ae 32 ce (fk 8) _ _ He Om (eJ 8)) ?_;rintro e _ ⟨YZ, c11, rfl, Y0, ex⟩;obtain ⟨E,HA,B4,He,H1,H3,H4,H5,H6⟩ := uX ex E HA B4 He H1 H3 H4 H5 H6;obtain ⟨H7,H8,H9,YU⟩ := bG ex H7 H8 H9 YU;refine au 1 ?_;refine ak (aA rfl (cells := #[.slice A n c, .slice A1 32 c1, .slice Ae 32 ce, .slice A3 32 c3, .slice A4 32 c4, .slice A5 32 c5, .slice A6 32 c6, .slice A7 32 c7, .slice A8 32 c8, .slice A9 32 c9, .slice YY 32 c10, .slice YZ 32 c11]) Kr) ?_;have HS := IM (c0 := c) (c1 := c1) (c2 := ce) (c3 := c3) (c4 := c4) (c5 := c5) (c6 := c6) (c7 := c7) (c8 := c8) (c9 := c9) (c10 := c10) (c11 := c11) HA H1 He H3 H4 H5 H6 H7 H8 H9 YU Y0;refine af (ag rfl rfl Kr B4 rfl (by simp [Value.oneCell'])) rfl ?_;rintro _ _ ⟨rfl, Y2, cg⟩;have Y3 := E.aw cg YX; have YV := HS.aw B4 EG cg;refine aU ?_;exact aa4 rfl Y2 rfl ⟨_, rfl, YV.congr (by unfold dD tj sS; rfl), Y3⟩
theorem vb (A B : Oa) (n c m d : Nat) (xss yss : List (List UInt8)) (w : aa9) (HA : sL w A n xss) (HB : sL w B m yss) (hn : n ≤ 1000000) (hx : ∀ x ∈ xss, x.length ≤ 1000000) (hy : ∀ x ∈ yss, x.length ≤ 1000000) :
  Ct 65 #[.slice A n c, .slice B m d] w (ck w (.bool (decide (xss = yss)))) := by
 have YX := HA.1; have YY := HB.1;have YZ := HA; have Y0 := HB;refine ai 27 func65 ?_;intro _ aa4;refine aa1 (fun Y2 => ?_) (fun Y2 => ?_)
 ·have hne : xss ≠ yss := fun e => by rw [e, YY] at YX; omega
  refine aU ?_;exact aa4 rfl ⟨by rw [decide_eq_false hne], Ext.refl _⟩
 refine aU ?_;refine aE (fun n' L wr => ∃ i : Nat, L = [(0, .slice A n c), (1, .slice B m d), (5, .int .i64 (i : Int))] ∧ n' = n - i ∧ (i ≤ n ∧ Ext w wr ∧ xss.take i = yss.take i)) _ _ ⟨0, rfl, rfl, Om, Ext.refl _, rfl⟩ Ls ?_;rintro _ n' L wr ⟨i, rfl, rfl, _, E, ht⟩ Y3;refine aa1 (fun Za => ?_) (fun Za => ?_)
 ·refine aU ?_;refine aD Kr 10 rfl ?_; intro Zf ex Zg;replace E := E.ext ex;obtain ⟨b1, o1, A1, m1, d1, x1, Zb, YV, Zc, H1⟩ := sL.get (YZ.ext E) (k := i) Om;obtain ⟨b2, o2, A2, m2, d2, x2, Zd, YW, Ze, H2⟩ := sL.get (Y0.ext E) (k := i) Om;subst Zb; subst Zd
  have z1 : m1 ≤ 1000000 := by rw [← H1.1, YV.out, List.getD_eq_getElem?_getD, List.getElem?_eq_getElem Om]; exact hx _ (List.getElem_mem _)
  have z2 : m2 ≤ 1000000 := by rw [← H2.1, YW.out, List.getD_eq_getElem?_getD, List.getElem?_eq_getElem Om]; exact hy _ (List.getElem_mem _)
  refine zm [0, 1, 2] ?_;refine my 3 rfl (ah rfl Tn.u rfl Zc) ?_;refine zm [4, 5, 6] ?_;refine my 7 rfl (ah rfl Tn.u rfl Ze) ?_;refine bC 8 rfl func26 rfl (Hu A1 A2 m1 m2 d1 d2 x1 x2 _ H1 H2 Om Om) ?_;rintro e _ ⟨rfl, ex⟩;refine au 1 ?_;have E3 := E.ext ex;have e1 : x1 = xss[i]'Om := by rw [YV.out, List.getD_eq_getElem?_getD, List.getElem?_eq_getElem Om]; rfl
  have e2 : x2 = yss[i]'Om := by rw [YW.out, List.getD_eq_getElem?_getD, List.getElem?_eq_getElem Om]; rfl
  refine zm [9] ?_;refine bw rfl (fun YU => ?_) (fun YU => ?_)
  ·have hd : x1 ≠ x2 := by simpa using YU
   refine aU ?_;refine aa4 rfl ?_;have hne : xss ≠ yss := fun e => hd (by rw [e1, e2]; simp only [e]);exact ⟨by rw [decide_eq_false hne], E3⟩
  have hd : x1 = x2 := by simpa using YU
  refine au 8 ?_;refine ae ?_;refine Y3 _ _ ⟨i + 1, rfl, rfl, Om, E3, by rw [List.take_succ_eq_append_getElem Om, List.take_succ_eq_append_getElem Om, ht, ← e1, ← e2, hd]⟩ Om Ls
 refine aU ?_;refine aa4 rfl ?_
 have he : xss = yss := by rw [List.take_of_length_le Om, List.take_of_length_le Om] at ht; exact ht
 exact ⟨by rw [decide_eq_true he], E⟩
theorem Gv (H : cN w cs l) (B : aq w g t cs) : sL w (cf g) 12 l := by obtain ⟨vs, rfl, h2, h3, h4⟩ := H;refine ⟨h3, vs, Om, At.fA B, fun i hi => ?_⟩;obtain ⟨A, n, c, h5, h6⟩ := h4 i hi;exact ⟨A, n, c, h5, h6⟩
theorem CJ (cs ds : Array Value) (l m : List (List UInt8)) (w : aa9) (H : cN w cs l) (K : cN w ds m) (hl : ∀ x ∈ l, x.length ≤ 1000000) (hm : ∀ x ∈ m, x.length ≤ 1000000) :
  Ct 25 #[.agg cs, .agg ds] w (ck w (.bool (decide (l = m)))) := by
 have E := Ext.refl w;have hcs : cs.size = 12 := H.size;have RQ : ds.size = 12 := K.size;obtain ⟨a0, Zx, Zy, Zd, _⟩ := H.get (i := 0) Om;obtain ⟨b0, Zz, ZA, Ze, _⟩ := K.get (i := 0) Om;obtain ⟨a1, ZB, ZC, Zf, _⟩ := H.get (i := 1) Om;obtain ⟨b1, UH, ZD, Zg, _⟩ := K.get (i := 1) Om;obtain ⟨a2, ZE, ZF, Zh, _⟩ := H.get (i := 2) Om;obtain ⟨b2, Xb, ZG, Zi, _⟩ := K.get (i := 2) Om;obtain ⟨a3, ZH, ZI, Zj, _⟩ := H.get (i := 3) Om;obtain ⟨b3, ZJ, ZK, Zk, _⟩ := K.get (i := 3) Om;obtain ⟨a4, ZL, ZM, Zl, _⟩ := H.get (i := 4) Om;obtain ⟨b4, VT, ZN, Zm, _⟩ := K.get (i := 4) Om;obtain ⟨a5, ZO, ZP, Zn, _⟩ := H.get (i := 5) Om;obtain ⟨b5, ZQ, ZR, Zo, _⟩ := K.get (i := 5) Om;obtain ⟨a6, ZS, ZT, Zp, _⟩ := H.get (i := 6) Om;obtain ⟨b6, ZU, ZV, Zq, _⟩ := K.get (i := 6) Om;obtain ⟨a7, ZW, ZX, Zr, _⟩ := H.get (i := 7) Om;obtain ⟨b7, ZY, ZZ, Zs, _⟩ := K.get (i := 7) Om;obtain ⟨a8, Z0, Z1, Zt, _⟩ := H.get (i := 8) Om;obtain ⟨b8, Z2, Z5, Zu, _⟩ := K.get (i := 8) Om;obtain ⟨a9, Z6, Z7, Zv, _⟩ := H.get (i := 9) Om;obtain ⟨b9, Z8, cb9, Zw, _⟩ := K.get (i := 9) Om;obtain ⟨a10, YY, YZ, YU, _⟩ := H.get (i := 10) Om;obtain ⟨b10, Y0, Y2, YV, _⟩ := K.get (i := 10) Om;obtain ⟨a11, Y3, Za, YW, _⟩ := H.get (i := 11) Om;obtain ⟨b11, Zb, Zc, YX, _⟩ := K.get (i := 11) Om
 have ecs : cs = #[.slice a0 Zx Zy, .slice a1 ZB ZC, .slice a2 ZE ZF, .slice a3 ZH ZI, .slice a4 ZL ZM, .slice a5 ZO ZP, .slice a6 ZS ZT, .slice a7 ZW ZX, .slice a8 Z0 Z1, .slice a9 Z6 Z7, .slice a10 YY YZ, .slice a11 Y3 Za] := by
  apply Array.ext_getElem?;intro i
  match i with
  | 0 => rw [Zd]; rfl
  | 1 => rw [Zf]; rfl
  | 2 => rw [Zh]; rfl
  | 3 => rw [Zj]; rfl
  | 4 => rw [Zl]; rfl
  | 5 => rw [Zn]; rfl
  | 6 => rw [Zp]; rfl
  | 7 => rw [Zr]; rfl
  | 8 => rw [Zt]; rfl
  | 9 => rw [Zv]; rfl
  | 10 => rw [YU]; rfl
  | 11 => rw [YW]; rfl
  | i + 12 => rw [Array.getElem?_eq_none Om]; simp
 have eds : ds = #[.slice b0 Zz ZA, .slice b1 UH ZD, .slice b2 Xb ZG, .slice b3 ZJ ZK, .slice b4 VT ZN, .slice b5 ZQ ZR, .slice b6 ZU ZV, .slice b7 ZY ZZ, .slice b8 Z2 Z5, .slice b9 Z8 cb9, .slice b10 Y0 Y2, .slice b11 Zb Zc] := by
  apply Array.ext_getElem?;intro i
  match i with
  | 0 => rw [Ze]; rfl
  | 1 => rw [Zg]; rfl
  | 2 => rw [Zi]; rfl
  | 3 => rw [Zk]; rfl
  | 4 => rw [Zm]; rfl
  | 5 => rw [Zo]; rfl
  | 6 => rw [Zq]; rfl
  | 7 => rw [Zs]; rfl
  | 8 => rw [Zu]; rfl
  | 9 => rw [Zw]; rfl
  | 10 => rw [YV]; rfl
  | 11 => rw [YX]; rfl
  | i + 12 => rw [Array.getElem?_eq_none Om]; simp
 refine ai 60 func25 ?_;intro _ aa4;refine aU ?_;intro w1 g1 (B1 : aq _ _ _ (cs)) hg1 ex;obtain ⟨E,H,K⟩ := bh ex E H K;refine aU ?_;intro w2 g2 (B2 : aq _ _ _ (ds)) hg2 ex;obtain ⟨E,H,K,B1⟩ := bG ex E H K B1;refine au 6 ?_;refine ak (ah rfl Tn.u rfl (B1.get Zd)) ?_;refine au 1 ?_;refine ak (ah rfl Tn.u rfl (B1.get Zf)) ?_;refine au 1 ?_;refine ak (ah rfl Tn.u rfl (B1.get Zh)) ?_;refine au 1 ?_;refine ak (ah rfl Tn.u rfl (B1.get Zj)) ?_;refine au 1 ?_;refine ak (ah rfl Tn.u rfl (B1.get Zl)) ?_;refine au 1 ?_;refine ak (ah rfl Tn.u rfl (B1.get Zn)) ?_;refine au 1 ?_;refine ak (ah rfl Tn.u rfl (B1.get Zp)) ?_;refine au 1 ?_;refine ak (ah rfl Tn.u rfl (B1.get Zr)) ?_;refine au 1 ?_;refine ak (ah rfl Tn.u rfl (B1.get Zt)) ?_;refine au 1 ?_;refine ak (ah rfl Tn.u rfl (B1.get Zv)) ?_;refine au 1 ?_;refine ak (ah rfl Tn.u rfl (B1.get YU)) ?_;refine au 1 ?_;refine ak (ah rfl Tn.u rfl (B1.get YW)) ?_;refine af (aF (z := .slice none 0 0) Tn.u Kr rfl rfl rfl rfl rfl) rfl ?_;rintro _ _ ⟨_, rfl, B3, _, ex⟩;obtain ⟨E,H,K,B2⟩ := bG ex E H K B2;refine au 6 ?_;refine ak (ah rfl Tn.u rfl (B2.get Ze)) ?_;refine au 1 ?_;refine ak (ah rfl Tn.u rfl (B2.get Zg)) ?_;refine au 1 ?_;refine ak (ah rfl Tn.u rfl (B2.get Zi)) ?_;refine au 1 ?_;refine ak (ah rfl Tn.u rfl (B2.get Zk)) ?_;refine au 1 ?_;refine ak (ah rfl Tn.u rfl (B2.get Zm)) ?_;refine au 1 ?_;refine ak (ah rfl Tn.u rfl (B2.get Zo)) ?_;refine au 1 ?_;refine ak (ah rfl Tn.u rfl (B2.get Zq)) ?_;refine au 1 ?_;refine ak (ah rfl Tn.u rfl (B2.get Zs)) ?_;refine au 1 ?_;refine ak (ah rfl Tn.u rfl (B2.get Zu)) ?_;refine au 1 ?_;refine ak (ah rfl Tn.u rfl (B2.get Zw)) ?_;refine au 1 ?_;refine ak (ah rfl Tn.u rfl (B2.get YV)) ?_;refine au 1 ?_;refine ak (ah rfl Tn.u rfl (B2.get YX)) ?_;refine af (aF (z := .slice none 0 0) Tn.u Kr rfl rfl rfl rfl rfl) rfl ?_;rintro _ _ ⟨_, rfl, B4, _, ex⟩;obtain ⟨E,H,K,B3⟩ := bG ex E H K B3;refine aU ?_;refine aB func65 rfl (vb _ _ 12 12 12 12 l m _ (Gv H (B3.congr ecs.symm)) (Gv K (B4.congr eds.symm)) Om hl hm) ?_;rintro e _ ⟨rfl, ex⟩;replace E := E.ext ex;refine aU ?_;exact aa4 rfl ⟨rfl, E⟩
def uz : ByteArray := ⟨#[107, 101, 121]⟩
def jt : ByteArray := ⟨#[110, 111, 110, 99, 101]⟩
theorem Nl (cs : Array Value) (l : List (List UInt8)) (B : Oa) (m d : Nat) (ys : Lb) (w : aa9) (HS : cN w cs l) (hl : (l.getD 8 []).length ≤ 1000) (HB : Bs w B m ys) (hm : m ≤ 1000) :
  Ct 45 #[.agg cs, .slice B m d] w fun e w' => ∃ A' c', e = .returned (.slice A' 32 c') ∧ Bs w' A' 32 (Mac.tag (l.getD 8 []) ys) ∧ Ext w w' := by
 have hy := HB.1;obtain ⟨A8, n8, c8, q8, H8⟩ := HS.get (i := 8) Om;have hz := H8.1;refine ai 10 func45 ?_;intro _ aa4;refine aU ?_;intro w0 g0 (B0 : aq _ _ _ (cs)) YU ex;obtain ⟨HB,H8⟩ := aS ex HB H8;have E0 := ex;refine au 6 ?_;refine ak (ah rfl Tn.u rfl (B0.get q8)) ?_;refine aU ?_;refine af (aF (z := .slice none 0 0) Tn.u Kr rfl rfl rfl rfl rfl) rfl ?_;rintro _ _ ⟨_, rfl, B1, _, ex⟩;obtain ⟨HB,H8⟩ := aS ex HB H8;have E1 := E0.ext ex;refine aB func112 rfl (wS A8 _ n8 c8 1 1 _ _ _ H8 Om (nE B1 HB) Om So) ?_;rintro e _ ⟨_, rfl, _, B2, ex⟩;have E2 := E1.ext ex;refine aU ?_;exact aa4 rfl ⟨_, 32, rfl, by have := aX B2 (Mac.du _ _); simpa using this, E2⟩
theorem vT (cs : Array Value) (l : List (List UInt8)) (w : aa9) (HS : cN w cs l) (hl : (l.getD 1 []).length ≤ 1000) :
  Ct 40 #[.agg cs] w fun e w' => ∃ A1 c1 A2 c2, e = .returned (.tuple #[.slice A1 16 c1, .slice A2 12 c2]) ∧ Bs w' A1 16 (Kdf.label (l.getD 1 []) uz.data.toList [] 16) ∧ Bs w' A2 12 (Kdf.label (l.getD 1 []) jt.data.toList [] 12) ∧ Ext w w' := by
 obtain ⟨A0, n0, c0, q0, H0⟩ := HS.get (i := 1) Om;have z0 := H0.1;have E := Ext.refl w;refine aZ 10 func40 ?_;intro _ aa4;refine aU ?_;intro w0 g0 (B0 : aq _ _ _ (cs)) YU ex;obtain ⟨E,H0⟩ := aS ex E H0;refine aU ?_;refine aD Kr 8 rfl ?_; intro YV ex YW;obtain ⟨E,H0,B0⟩ := bh ex E H0 B0;refine zm [0] ?_;refine my 1 rfl (ah rfl Tn.u rfl (B0.get q0)) ?_;refine zm [3] ?_;refine my 4 rfl (ah rfl Tn.u rfl (B0.get q0)) ?_;refine bC 2 rfl func98 rfl (lu A0 none n0 c0 0 0 16 uz _ [] _ H0 Om (by decide) (Bs.nil _ _) Om Om) ?_;rintro e _ ⟨A1, c1, rfl, H1, ex⟩;obtain ⟨E,H0⟩ := aS ex E H0;refine aU ?_;refine bC 5 rfl func98 rfl (lu A0 none n0 c0 0 0 12 jt _ [] _ H0 Om (by decide) (Bs.nil _ _) Om Om) ?_;rintro e _ ⟨A2, c2, rfl, H2, ex⟩;obtain ⟨E,H1⟩ := aS ex E H1;refine zm [6, 7] ?_;exact aa4 rfl rfl ⟨A1, c1, A2, c2, rfl, H1, H2, E⟩
end Go.Proofs.YtgfafidlkldeaaaGreat
