/- The law WelcomeOpens: what any guest finds in a welcome in which a byte may be another one. No conditions: contracts of functions. -/
import Derived.Test.YtgfafidlkldeaaaGreatWlI
import Derived.Test.YtgfafidlkldeaaaGreatBigC
import Derived.Test.YtgfafidlkldeaaaGreatMsZ
import Derived.Test.YtgfafidlkldeaaaGreatFieldB
import Derived.Test.YtgfafidlkldeaaaGreatSecE
import Derived.Test.YtgfafidlkldeaaaGreatWlC
set_option linter.unusedVariables false
set_option linter.unusedSimpArgs false
set_option maxHeartbeats 4000000
set_option maxRecDepth 4000
namespace Go.Proofs.YtgfafidlkldeaaaGreat
variable {cs cur is ss : Array Value} {D G I h h0 h1 h2 h4 h5 : Hd} {o z : Int} {ident j seed : Lb} {ts : List (List UInt8)} {gs : List Gs} {S : List Nat} {vals vs ys : List Value} {M N b base c fuel g i k n s sz : Nat} {A : Oa} {e t ty : TypeId} {y : UInt8} {W' w w' w0 wq : World} {x : kg}
section
open Go.RowKit Tryz
section
variable {P : Program} {L : List (Nat × Value)} {x y : Operand}
theorem Y.QT {op : Op} {v : Value} (h : Y P L w op ty v) : Ef P L w op ty fun u w' => u = v ∧ w' = w ∧ Ext w w' := h.ef.mono fun _ _ ⟨a, b⟩ => ⟨a, b, b ▸ Ext.refl w⟩
theorem jy {m c2 bytes : Nat} {B : Oa} (hx : ev L x = some (.slice (some ⟨g, 0, none⟩) 0 0)) (hy : ev L y = some (.slice B m c2)) (hE : Ap P t e bytes) (hr : At w B ys) (hl : ys.length = m) (hm : 0 < m)
  (hlen : m * bytes ≤ 140737488355328) (Vq : m ≤ 140737488355328) : Ef P L w (.call { callee := .builtin .append, args := #[x, y], argTypes := #[t, t] }) ty fun v w' => ∃ A' c', v = .slice A' m c' ∧ Row w' w.heap.size e A' m c' ys ∧ Ext w w' := Ef.run fun ρ hρ => by
 obtain ⟨ht, i, z, hi, hz, hs, hb, hzs⟩ := hE
 rcases hr with h0 | ⟨b, off, rfl, hc⟩
 ·subst h0; simp at hl; omega
 have hrun := run_append_grow (P := P) w t ty e i z ht hi hz ⟨g, 0, none⟩ 0 0 [] (by simp) (fun j v hv => by simp at hv) ⟨b, off, none⟩ m c2 ys (by rw [hs]; omega) (fun j u hu => by rw [Addr.add_plain]; exact hc j u hu) Om Om (growslice_fits Om (by rw [hb, Nat.zero_add]; exact hlen));have hge := grownCap_ge w (0 + m) 0 e;rw [Nat.zero_add] at hrun hge;refine ⟨_, w.drew.alloc (.cells (([] : List Value).toArray ++ ys.toArray ++ Builtin.zeroCells z.cells (grownCap w m 0 e - m)) e), ⟨_, _, rfl, ⟨by omega, .inr ⟨w.heap.size, _, _, rfl, Nat.le_refl _, heap_alloc_new w.drew _, hge, grownCap_le_maxLen w m 0 e (by unfold maxLen; omega), ?_, ?_⟩⟩, Below.mono (((Below.refl _ w).drew).alloc (by simp) _) (Nat.le_refl _)⟩, fun _ _ _ _ => by simp [execOp, resolve, invoke, builtin, hρ _ _ hx, hρ _ _ hy, hrun]⟩
 ·simp only [Array.size_append, List.size_toArray, size_zeroCells, hzs, List.length_nil, Nat.zero_add, hl]; omega
 simp only [Array.toList_append, List.nil_append, Nat.mul_one];rw [← hl]; exact List.take_left
end
attribute [local irreducible] Y Ef WL WC WK WQ WM cv WN WF cZ WJ gI WR qK
open Wire Nd Hk
def Wv (S : List Nat) (base : Nat) (w : World) (v : Value) : Prop := ∀ b o n c, v = .slice (some ⟨b, o, none⟩) n c → 0 < n → base ≤ b ∧ b ∉ S ∧ ∃ t cur, ao w b t cur
section
variable {T : List Nat} {v : Value}
theorem Wv.bk (h : Wv S base w v) (k : aE T w w') (hT : ∀ g ∈ T, g ∈ S) : Wv S base w' v := fun b o n c e hn => by obtain ⟨h1, h2, t, cur, h3⟩ := h b o n c e hn;exact ⟨h1, h2, t, cur, (k.block b (ao.lt h3) fun hm => h2 (hT _ hm)).trans h3⟩
theorem Wv.ext (h : Wv S base w v) (k : Ext w w') : Wv S base w' v := h.bk (aE.of k []) (by simp)
theorem Wv.grown {o o' : Option Nat} (h : Wv (o.toList ++ S) base w v) (gr : w.grownBy w' o) (hgl : o' = o ∨ o' = some w.heap.size) : Wv (o'.toList ++ S) base w' v := fun b q n c e hn => by
 obtain ⟨h1, h2, r⟩ := h.bk (aE.IF gr) (fun g hg => List.mem_append_left _ hg) b q n c e hn;obtain ⟨_, _, t', Vq, h5⟩ := h b q n c e hn;have hl := ao.lt h5;refine ⟨h1, fun hm => ?_, r⟩;rcases List.mem_append.1 hm with hm | hm
 ·rcases hgl with rfl | rfl
  ·exact h2 (List.mem_append_left _ hm)
  simp at hm; omega
 exact h2 (List.mem_append_right _ hm)
theorem Wv.of (h : Nw base w A) (hk : k ≤ base) (hS : ∀ g ∈ S, g < base) : Wv S k w (.slice A n c) := fun b o n c e _ => by
 injection e with e
 obtain ⟨h1, r⟩ := h b o e;exact ⟨by omega, fun hm => by have := hS b hm; omega, r⟩
end
def BW (base : Nat) (w : World) (h : Hd) (xs : Lb) : Prop := py w h xs ∧ Wv [] base w (.slice h.A h.n h.c)
section
variable (w0 : World) (base g4 g8 g10 : Nat) (ss : Array Value) (I : Hd) (j seed inf : Lb) (gs : List Gs)
structure AV (i : Nat) (A : Oa) (c : Nat) (vals : List Value) (W : World) : Prop where
 bs : base ≤ W.heap.size
 co : ∀ k, k < i → (sO j seed inf gs k).2 = 0
 e : Ext w0 W
 b4 : ao W g4 44 ss
 b8 : ao W g8 25 (fK an an)
 b10 : ao W g10 25 (fK ⟨A, i, c⟩ I)
 el : jt nE 3 37 base [g10, g8, g4] W A i c ((List.range i).map fun i => (sO j seed inf gs i).1) vals
 ib : Bx ((Value.slice A i c).ownBlock.toList ++ [g10, g8, g4]) W I inf
 nw : ∀ v ∈ Value.slice I.A I.n I.c :: vals, Wv ((Value.slice A i c).ownBlock.toList ++ [g10, g8, g4]) w0.heap.size W v
end
section
variable {g4 g8 g10 : Nat} {inf : Lb} {W : World}
theorem AV.ext (h : AV w0 base g4 g8 g10 ss I j seed inf gs i A c vals W) (x : Ext W W') : AV w0 base g4 g8 g10 ss I j seed inf gs i A c vals W' :=
 ⟨Nat.le_trans h.bs x.size, h.co, h.e.ext x, h.b4.ext x, h.b8.ext x, h.b10.ext x, h.el.ext nE.imp x, h.ib.ext x, fun v hv => (h.nw v hv).ext x⟩
end
theorem ig (i : jq) : 0 < (zo i).length := by unfold zo; simp only [List.length_append, iK]; omega
theorem pa {i g y : Hd} {j : Nat} {v : Value} (h : (dH i h0 h1 h2 s h4 h5 g)[j]? = some v) : (L6 i h0 h1 h2 s h4 h5 g y)[j]? = some v := by
 match j with
 | 0 => exact h
 | 1 => exact h
 | 2 => exact h
 | 3 => exact h
 | 4 => exact h
 | 5 => exact h
 | 6 => exact h
 | 7 => exact h
 | j + 8 => rw [Array.getElem?_eq_none (by show 8 ≤ _; omega)] at h; cases h
theorem Mz {pb sd is ts ms : Lb} (h : (sl pb sd is ts ms).2.2 = 0) : (sl pb sd is ts ms).1.length = 32 ∧ 0 < (sl pb sd is ts ms).2.1.length := by
 unfold sl at h ⊢;split
 ·rename_i h1; rw [if_pos h1] at h; exact absurd h h1
 rename_i h1;exact ⟨MU Om, by show 0 < (Gm.nh _ _ _ _).length; rw [Gm.lR]; omega⟩
theorem Kk (HG : rl tX 9 w A n gs) (hi : i < n) : ∃ b o y f0 f1 f2 f3 f4 f5 f6 f7, A = some ⟨b, o, none⟩ ∧ gs[i]? = some y ∧ (∀ W', Ext w W' → ∀ j v, (L6 f0 f1 f2 f3 y.pk.leaf.src f4 f5 f6 f7)[j]? = some v → W'.cell? ⟨b, o + i * 9 + j, none⟩ = some v) ∧
  py w f0 y.pk.init ∧ dx w (dH f0 f1 f2 f3 y.pk.leaf.src f4 f5 f6) y.pk ∧ py w f7 y.way := by
 obtain ⟨b, o, cs, y, e1, _, hx, _, hR, hcx⟩ := HG.Ck Om (i := i) hi;obtain ⟨f0, f1, f2, f3, f4, f5, f6, f7, rfl, hs, q, q0, q1, q2, q4, q5, r, t⟩ := hR;exact ⟨b, o, y, f0, f1, f2, f3, f4, f5, f6, f7, e1, hx, fun W' E j v hv => (Below.cell E (dX (hcx j v hv))).trans (hcx j v hv), q, ⟨f0, f1, f2, f3, f4, f5, f6, rfl, hs, q, q0, q1, q2, q4, q5, r⟩, t⟩
def GC (base : Nat) (w : World) (cs : Array Value) (x : kg) : Prop := ∃ A n c I, cs = fK ⟨A, n, c⟩ I ∧ rl (fun w => nE (BW base w)) 3 w A n x.guests ∧ BW base w I x.info ∧ I.n ≤ I.c
theorem GC.ac (h : GC base w cs x) : ka w cs x := by obtain ⟨A, n, c, I, rfl, ⟨g1, vs, g2, g3, g4⟩, h2, h3⟩ := h;exact ⟨⟨A, n, c⟩, I, rfl, ⟨g1, vs, g2, g3, fun i x hx => (nE.imp _ _ _ _ (g4 i x hx) fun _ _ b => b.1).ac⟩, h2.1, h3⟩
theorem nE.bw {x : lB} (h : nE (Bx S w) cs x) (hv : ∀ v ∈ cs.toList, Wv S base w v) : nE (BW base w) cs x := by
 have hw : ∀ v ∈ cs.toList, Wv [] base w v := fun v hm b o n c e hn => by obtain ⟨h1, _, r⟩ := hv v hm b o n c e hn; exact ⟨h1, by simp, r⟩
 obtain ⟨a, b, c, rfl, h1, h2, h3, h4⟩ := h;exact ⟨a, b, c, rfl, ⟨h1.1, hw _ (by simp [fx])⟩, ⟨h2.1, hw _ (by simp [fx])⟩, ⟨h3.1, hw _ (by simp [fx])⟩, h4⟩
theorem xR {x : jq} (w : World) (HS : cT w ss ts) (hj : (ts.getD 0 []).length ≤ 1000) (Xz : (ts.getD 1 []).length ≤ 1000) (HI : fX w is x) (hx : x.ctx.Small) (ht : x.tag.length ≤ 1000) (h6 : x.sig.length ≤ 1000)
  (HG : rl tX 9 w G.A G.n gs) (hs : ∀ x ∈ gs, x.pk.Small ∧ x.way.length ≤ 1000) (HD : py w D seed) (hD : D.n ≤ 1000) :
  Ct 20 #[.agg ss, .agg is, .slice G.A G.n G.c, .slice D.A D.n D.c] w fun e w' => ∃ cs, e = .returned (.tuple #[.agg cs, .int .i64 ((iu ts x gs seed).2 : Int)]) ∧ ka w' cs (iu ts x gs seed).1 ∧ ((iu ts x gs seed).2 = 0 → GC w.heap.size w' cs (iu ts x gs seed).1) ∧ Ext w w' := by
 have E := Ext.refl w;have hgl := HG.1;have W6 := HI;obtain ⟨i0, i1, i2, i3, i4, rfl, _, _, _, _, _, _, v4⟩ := W6;have XA := v4.1;obtain ⟨J, nj, cj, WV, HJ⟩ := HS.get (i := 0) Om;obtain ⟨P1, WW, WX, WY, Wx⟩ := HS.get (i := 1) Om;have lj := HJ.1; have lD := HD.1; have l1 := Wx.1; have lz := Wire.bE i4.n;refine du (s := 2) 132 func20 rfl rfl rfl underlying25 rfl Kr rfl ?_;intro _ hret;refine aU ?_;intro _ VO B4 _ ex;have XB := B4.lt;replace E := E.ext ex;refine aU ?_;intro _ _ B5 _ ex;have XD := B5.lt;obtain ⟨E,B4⟩ := aZ ex E B4;refine aU ?_;intro v8 g8 (B8 : ao _ _ _ (fK an an)) XF ex;obtain ⟨E,B4,B5⟩ := bF ex E B4 B5;refine aU ?_;refine aC func19 rfl (pX _ (HI.ext E)) ?_;rintro e _ ⟨rfl, ex⟩;obtain ⟨E,B4,B5,B8⟩ := bU ex E B4 B5 B8;refine aU ?_;refine bB rfl (fun Wy => ?_) (fun Wy => ?_)
 ·refine au 2 ?_;refine al (ar rfl (cells := fK an an) Kr) ?_;refine aU ?_;intro w2 D8 cg;replace E := E.aA cg Om; replace B8 := D8.congr (cs' := fK an an) rfl;refine aU ?_;refine hret rfl rfl B8 rfl ?_;have hno : ¬ gL x := by simpa using Wy
  have e1 : iu ts x gs seed = (kg.zero, 3) := by unfold iu; rw [if_pos hno]
  rw [e1]; exact ⟨_, rfl, mF _, fun h => (by cases h), E⟩
 have okx : gL x := by simpa using Wy
 refine aU ?_;refine ak rfl (fun W9 => ?_) (fun W9 => ?_)
 ·refine au 2 ?_;refine al (ar rfl (cells := fK an an) Kr) ?_;refine aU ?_;intro w2 D8 cg;replace E := E.aA cg Om; replace B8 := D8.congr (cs' := fK an an) rfl;refine aU ?_;refine hret rfl rfl B8 rfl ?_;have e1 : iu ts x gs seed = (kg.zero, 6) := by unfold iu; rw [if_neg (fun h => h okx), if_pos Om]
  rw [e1]; exact ⟨_, rfl, mF _, fun h => (by cases h), E⟩
 obtain ⟨V, hV⟩ : ∃ V, V = Gm.nh (Kdf.label (ts.getD 1 []) sn.data.toList [] 16) (Kdf.label (ts.getD 1 []) jl.data.toList [] 12) (BA x) [] := ⟨_, rfl⟩
 have e1 : iu ts x gs seed = RG (ts.getD 0 []) seed V gs := by unfold iu; rw [if_neg (fun h => h okx), if_neg Om, ← hV]
 have y8 := B8.lt;refine aU ?_;intro w5 g10 (Vw : ao _ _ _ (fK an an)) Xa ex;obtain ⟨E,B4,B5,B8⟩ := bU ex E B4 B5 B8;have X6 := Ext.refl w5; have b8 := B8;refine au 3 ?_;refine eD (fun L Wz => ∃ (WA : Oa) (VE c11 : Nat), L = [(2, .slice G.A G.n G.c), (3, .slice D.A D.n D.c), (4, .pointer (some ⟨VO, 0, none⟩)), (8, .pointer (some ⟨g8, 0, none⟩)), (10, .pointer (some ⟨g10, 0, none⟩)), (11, .slice WA VE c11)] ∧ (Ext w5 Wz ∧ Bs Wz WA VE (BA x) ∧ VE ≤ 5000)) ?_ ?_
 ·skip;refine az Kr 9 rfl ?_; intro XG ex XH;replace X6 := X6.ext ex;refine my 1 rfl (wQ (o := 0) (s := 7) rfl Tn.u rfl Kr (B5.ext X6) rfl) ?_;refine zm [4] ?_;refine Hn 0 2 5 Kr ?_ ?_ ?_
  ·skip;refine aQ rfl (aF (z := .int .u8 0) Tn.u Kr rfl rfl rfl rfl rfl) rfl ?_;rintro _ Wm ⟨Wn, rfl, Wo, VR, ex⟩;refine ⟨.inr ex, ?_⟩;replace X6 := X6.ext ex;refine fR 2 5 Kr ?_ ?_
   ·skip;refine eW rfl func53 rfl rfl rfl (gu _ (HI.ext (E.tr X6)) hx Om) rfl ?_;rintro e Wq ⟨Wr, VK, Ws, rfl, VS, VT, ex⟩;refine aU ?_;replace X6 := X6.ext ex;have Vr := VS.bs; have VL := Vr.1;refine fR 3 5 Kr ?_ ?_
    ·skip;have VW := X6.size;refine aQ rfl (jy rfl rfl bT Vr.2 (by rw [List.length_map, Vr.1]) (by rw [← VL]; exact ig _) Om Om) rfl ?_;rintro _ Vx ⟨VX, VY, rfl, Vs, ex⟩;refine ⟨.inl rfl, ?_⟩;replace X6 := X6.ext ex; (try replace Vq := Vq.ext ex); have VZ := ex.size; have Vt := Ext.refl Vx;refine aL 5 Kr ?_; refine aQ rfl ((af rfl Tn.u rfl ((B5.ext X6).get (i := 6) rfl)).QT) rfl ?_;rintro _ _ ⟨rfl, rfl, ex⟩;refine ⟨.inr ex, ?_⟩;obtain ⟨X6,Vs,Vt⟩ := bF ex X6 Vs Vt;refine bz 6 rfl func54 rfl (cI _ _ _ _ _ (Bs.ext v4 (E.tr X6)) Om) ?_;rintro e V0 ⟨V4, Vy, V5, rfl, Vz, VA, ex⟩;refine aU ?_;obtain ⟨X6,Vs,Vt⟩ := bF ex X6 Vs Vt;have Vq := Vz.bs;have V6 := Vt.size;refine aL 7 Kr ?_; refine aQ rfl (aX rfl rfl bT Vs Vq.2 (by rw [List.length_map, Vq.1]) aJ Om Om Om) rfl ?_;rintro _ V9 ⟨VB, VC, rfl, VD, be, gr, hl⟩;refine ⟨.inl rfl, ?_⟩;refine zm [8] ?_;exact bd _ ⟨VB, VK + Vy, VC, rfl, X6.trans (be.mono Om), VD.cat.bs, by omega⟩ Ls
    skip;refine aQ rfl ((af rfl Tn.u rfl ((B5.ext X6).get (i := 6) rfl)).QT) rfl ?_;rintro _ _ ⟨rfl, rfl, ex⟩;refine ⟨.inr ex, ?_⟩;obtain ⟨X6,Vr⟩ := aZ ex X6 Vr;have VW := X6.size;refine aL 3 Kr ?_; refine aQ rfl (jy rfl rfl bT Vr.2 (by rw [List.length_map, Vr.1]) (by rw [← VL]; exact ig _) Om Om) rfl ?_;rintro _ Vx ⟨VX, VY, rfl, Vs, ex⟩;refine ⟨.inl rfl, ?_⟩;replace X6 := X6.ext ex; (try replace Vq := Vq.ext ex); have VZ := ex.size; have Vt := Ext.refl Vx;refine bz 6 rfl func54 rfl (cI _ _ _ _ _ (Bs.ext v4 (E.tr X6)) Om) ?_;rintro e V0 ⟨V4, Vy, V5, rfl, Vz, VA, ex⟩;refine aU ?_;obtain ⟨X6,Vs,Vt⟩ := bF ex X6 Vs Vt;have Vq := Vz.bs;have V6 := Vt.size;refine aL 7 Kr ?_; refine aQ rfl (aX rfl rfl bT Vs Vq.2 (by rw [List.length_map, Vq.1]) aJ Om Om Om) rfl ?_;rintro _ V9 ⟨VB, VC, rfl, VD, be, gr, hl⟩;refine ⟨.inl rfl, ?_⟩;refine zm [8] ?_;exact bd _ ⟨VB, VK + Vy, VC, rfl, X6.trans (be.mono Om), VD.cat.bs, by omega⟩ Ls
   skip;refine aQ rfl ((af rfl Tn.u rfl ((B5.ext X6).get (i := 6) rfl)).QT) rfl ?_;rintro _ _ ⟨rfl, rfl, ex⟩;refine ⟨.inr ex, ?_⟩;replace X6 := X6.ext ex;refine bz 2 rfl func53 rfl (gu _ (HI.ext (E.tr X6)) hx Om) ?_;rintro e Wq ⟨Wr, VK, Ws, rfl, VS, VT, ex⟩;refine aU ?_;replace X6 := X6.ext ex;have Vr := VS.bs; have VL := Vr.1;have VW := X6.size;refine aL 3 Kr ?_; refine aQ rfl (jy rfl rfl bT Vr.2 (by rw [List.length_map, Vr.1]) (by rw [← VL]; exact ig _) Om Om) rfl ?_;rintro _ Vx ⟨VX, VY, rfl, Vs, ex⟩;refine ⟨.inl rfl, ?_⟩;replace X6 := X6.ext ex; (try replace Vq := Vq.ext ex); have VZ := ex.size; have Vt := Ext.refl Vx;refine bz 6 rfl func54 rfl (cI _ _ _ _ _ (Bs.ext v4 (E.tr X6)) Om) ?_;rintro e V0 ⟨V4, Vy, V5, rfl, Vz, VA, ex⟩;refine aU ?_;obtain ⟨X6,Vs,Vt⟩ := bF ex X6 Vs Vt;have Vq := Vz.bs;have V6 := Vt.size;refine aL 7 Kr ?_; refine aQ rfl (aX rfl rfl bT Vs Vq.2 (by rw [List.length_map, Vq.1]) aJ Om Om Om) rfl ?_;rintro _ V9 ⟨VB, VC, rfl, VD, be, gr, hl⟩;refine ⟨.inl rfl, ?_⟩;refine zm [8] ?_;exact bd _ ⟨VB, VK + Vy, VC, rfl, X6.trans (be.mono Om), VD.cat.bs, by omega⟩ Ls
  ·skip;refine eW rfl func53 rfl rfl rfl (gu _ (HI.ext (E.tr X6)) hx Om) rfl ?_;rintro e Wq ⟨Wr, VK, Ws, rfl, VS, VT, ex⟩;refine aU ?_;replace X6 := X6.ext ex;have Vr := VS.bs; have VL := Vr.1;refine fR 0 5 Kr ?_ ?_
   ·skip;refine aQ rfl (aF (z := .int .u8 0) Tn.u Kr rfl rfl rfl rfl rfl) rfl ?_;rintro _ Wm ⟨Wn, rfl, Wo, VR, ex⟩;refine ⟨.inr ex, ?_⟩;obtain ⟨X6,Vr⟩ := aZ ex X6 Vr;refine fR 3 5 Kr ?_ ?_
    ·skip;have VW := X6.size;refine aQ rfl (jy rfl rfl bT Vr.2 (by rw [List.length_map, Vr.1]) (by rw [← VL]; exact ig _) Om Om) rfl ?_;rintro _ Vx ⟨VX, VY, rfl, Vs, ex⟩;refine ⟨.inl rfl, ?_⟩;replace X6 := X6.ext ex; (try replace Vq := Vq.ext ex); have VZ := ex.size; have Vt := Ext.refl Vx;refine aL 5 Kr ?_; refine aQ rfl ((af rfl Tn.u rfl ((B5.ext X6).get (i := 6) rfl)).QT) rfl ?_;rintro _ _ ⟨rfl, rfl, ex⟩;refine ⟨.inr ex, ?_⟩;obtain ⟨X6,Vs,Vt⟩ := bF ex X6 Vs Vt;refine bz 6 rfl func54 rfl (cI _ _ _ _ _ (Bs.ext v4 (E.tr X6)) Om) ?_;rintro e V0 ⟨V4, Vy, V5, rfl, Vz, VA, ex⟩;refine aU ?_;obtain ⟨X6,Vs,Vt⟩ := bF ex X6 Vs Vt;have Vq := Vz.bs;have V6 := Vt.size;refine aL 7 Kr ?_; refine aQ rfl (aX rfl rfl bT Vs Vq.2 (by rw [List.length_map, Vq.1]) aJ Om Om Om) rfl ?_;rintro _ V9 ⟨VB, VC, rfl, VD, be, gr, hl⟩;refine ⟨.inl rfl, ?_⟩;refine zm [8] ?_;exact bd _ ⟨VB, VK + Vy, VC, rfl, X6.trans (be.mono Om), VD.cat.bs, by omega⟩ Ls
    skip;refine aQ rfl ((af rfl Tn.u rfl ((B5.ext X6).get (i := 6) rfl)).QT) rfl ?_;rintro _ _ ⟨rfl, rfl, ex⟩;refine ⟨.inr ex, ?_⟩;obtain ⟨X6,Vr⟩ := aZ ex X6 Vr;have VW := X6.size;refine aL 3 Kr ?_; refine aQ rfl (jy rfl rfl bT Vr.2 (by rw [List.length_map, Vr.1]) (by rw [← VL]; exact ig _) Om Om) rfl ?_;rintro _ Vx ⟨VX, VY, rfl, Vs, ex⟩;refine ⟨.inl rfl, ?_⟩;replace X6 := X6.ext ex; (try replace Vq := Vq.ext ex); have VZ := ex.size; have Vt := Ext.refl Vx;refine bz 6 rfl func54 rfl (cI _ _ _ _ _ (Bs.ext v4 (E.tr X6)) Om) ?_;rintro e V0 ⟨V4, Vy, V5, rfl, Vz, VA, ex⟩;refine aU ?_;obtain ⟨X6,Vs,Vt⟩ := bF ex X6 Vs Vt;have Vq := Vz.bs;have V6 := Vt.size;refine aL 7 Kr ?_; refine aQ rfl (aX rfl rfl bT Vs Vq.2 (by rw [List.length_map, Vq.1]) aJ Om Om Om) rfl ?_;rintro _ V9 ⟨VB, VC, rfl, VD, be, gr, hl⟩;refine ⟨.inl rfl, ?_⟩;refine zm [8] ?_;exact bd _ ⟨VB, VK + Vy, VC, rfl, X6.trans (be.mono Om), VD.cat.bs, by omega⟩ Ls
   skip;refine aQ rfl ((af rfl Tn.u rfl ((B5.ext X6).get (i := 6) rfl)).QT) rfl ?_;rintro _ _ ⟨rfl, rfl, ex⟩;refine ⟨.inr ex, ?_⟩;obtain ⟨X6,Vr⟩ := aZ ex X6 Vr;refine aL 0 Kr ?_; refine aQ rfl (aF (z := .int .u8 0) Tn.u Kr rfl rfl rfl rfl rfl) rfl ?_;rintro _ Wm ⟨Wn, rfl, Wo, VR, ex⟩;refine ⟨.inr ex, ?_⟩;obtain ⟨X6,Vr⟩ := aZ ex X6 Vr;have VW := X6.size;refine aL 3 Kr ?_; refine aQ rfl (jy rfl rfl bT Vr.2 (by rw [List.length_map, Vr.1]) (by rw [← VL]; exact ig _) Om Om) rfl ?_;rintro _ Vx ⟨VX, VY, rfl, Vs, ex⟩;refine ⟨.inl rfl, ?_⟩;replace X6 := X6.ext ex; (try replace Vq := Vq.ext ex); have VZ := ex.size; have Vt := Ext.refl Vx;refine bz 6 rfl func54 rfl (cI _ _ _ _ _ (Bs.ext v4 (E.tr X6)) Om) ?_;rintro e V0 ⟨V4, Vy, V5, rfl, Vz, VA, ex⟩;refine aU ?_;obtain ⟨X6,Vs,Vt⟩ := bF ex X6 Vs Vt;have Vq := Vz.bs;have V6 := Vt.size;refine aL 7 Kr ?_; refine aQ rfl (aX rfl rfl bT Vs Vq.2 (by rw [List.length_map, Vq.1]) aJ Om Om Om) rfl ?_;rintro _ V9 ⟨VB, VC, rfl, VD, be, gr, hl⟩;refine ⟨.inl rfl, ?_⟩;refine zm [8] ?_;exact bd _ ⟨VB, VK + Vy, VC, rfl, X6.trans (be.mono Om), VD.cat.bs, by omega⟩ Ls
  skip;refine aQ rfl ((af rfl Tn.u rfl ((B5.ext X6).get (i := 6) rfl)).QT) rfl ?_;rintro _ _ ⟨rfl, rfl, ex⟩;refine ⟨.inr ex, ?_⟩;replace X6 := X6.ext ex;refine fR 0 2 Kr ?_ ?_
  ·skip;refine aQ rfl (aF (z := .int .u8 0) Tn.u Kr rfl rfl rfl rfl rfl) rfl ?_;rintro _ Wm ⟨Wn, rfl, Wo, VR, ex⟩;refine ⟨.inr ex, ?_⟩;replace X6 := X6.ext ex;refine bz 2 rfl func53 rfl (gu _ (HI.ext (E.tr X6)) hx Om) ?_;rintro e Wq ⟨Wr, VK, Ws, rfl, VS, VT, ex⟩;refine aU ?_;replace X6 := X6.ext ex;have Vr := VS.bs; have VL := Vr.1;have VW := X6.size;refine aL 3 Kr ?_; refine aQ rfl (jy rfl rfl bT Vr.2 (by rw [List.length_map, Vr.1]) (by rw [← VL]; exact ig _) Om Om) rfl ?_;rintro _ Vx ⟨VX, VY, rfl, Vs, ex⟩;refine ⟨.inl rfl, ?_⟩;replace X6 := X6.ext ex; (try replace Vq := Vq.ext ex); have VZ := ex.size; have Vt := Ext.refl Vx;refine bz 6 rfl func54 rfl (cI _ _ _ _ _ (Bs.ext v4 (E.tr X6)) Om) ?_;rintro e V0 ⟨V4, Vy, V5, rfl, Vz, VA, ex⟩;refine aU ?_;obtain ⟨X6,Vs,Vt⟩ := bF ex X6 Vs Vt;have Vq := Vz.bs;have V6 := Vt.size;refine aL 7 Kr ?_; refine aQ rfl (aX rfl rfl bT Vs Vq.2 (by rw [List.length_map, Vq.1]) aJ Om Om Om) rfl ?_;rintro _ V9 ⟨VB, VC, rfl, VD, be, gr, hl⟩;refine ⟨.inl rfl, ?_⟩;refine zm [8] ?_;exact bd _ ⟨VB, VK + Vy, VC, rfl, X6.trans (be.mono Om), VD.cat.bs, by omega⟩ Ls
  skip;refine eW rfl func53 rfl rfl rfl (gu _ (HI.ext (E.tr X6)) hx Om) rfl ?_;rintro e Wq ⟨Wr, VK, Ws, rfl, VS, VT, ex⟩;refine aU ?_;replace X6 := X6.ext ex;have Vr := VS.bs; have VL := Vr.1;refine aL 0 Kr ?_; refine aQ rfl (aF (z := .int .u8 0) Tn.u Kr rfl rfl rfl rfl rfl) rfl ?_;rintro _ Wm ⟨Wn, rfl, Wo, VR, ex⟩;refine ⟨.inr ex, ?_⟩;obtain ⟨X6,Vr⟩ := aZ ex X6 Vr;have VW := X6.size;refine aL 3 Kr ?_; refine aQ rfl (jy rfl rfl bT Vr.2 (by rw [List.length_map, Vr.1]) (by rw [← VL]; exact ig _) Om Om) rfl ?_;rintro _ Vx ⟨VX, VY, rfl, Vs, ex⟩;refine ⟨.inl rfl, ?_⟩;replace X6 := X6.ext ex; (try replace Vq := Vq.ext ex); have VZ := ex.size; have Vt := Ext.refl Vx;refine bz 6 rfl func54 rfl (cI _ _ _ _ _ (Bs.ext v4 (E.tr X6)) Om) ?_;rintro e V0 ⟨V4, Vy, V5, rfl, Vz, VA, ex⟩;refine aU ?_;obtain ⟨X6,Vs,Vt⟩ := bF ex X6 Vs Vt;have Vq := Vz.bs;have V6 := Vt.size;refine aL 7 Kr ?_; refine aQ rfl (aX rfl rfl bT Vs Vq.2 (by rw [List.length_map, Vq.1]) aJ Om Om Om) rfl ?_;rintro _ V9 ⟨VB, VC, rfl, VD, be, gr, hl⟩;refine ⟨.inl rfl, ?_⟩;refine zm [8] ?_;exact bd _ ⟨VB, VK + Vy, VC, rfl, X6.trans (be.mono Om), VD.cat.bs, by omega⟩ Ls
 rintro L Wz ⟨WA, VE, c11, rfl, X6, Wa, _⟩;obtain ⟨E,B4,B8,Vw⟩ := bU X6 E B4 B8 Vw;refine aU ?_;refine az Kr 13 rfl ?_; intro XI ex XJ;obtain ⟨E,B4,B8,Vw,Wa⟩ := eQ ex E B4 B8 Vw Wa;refine zm [0] ?_;refine my 1 rfl (af rfl Tn.u rfl (B4.get WY)) ?_;refine zm [3] ?_;refine my 4 rfl (af rfl Tn.u rfl (B4.get WY)) ?_;refine zm [6] ?_;refine bz 2 rfl func47 rfl (dN P1 none WW WX 0 0 16 sn (ts.getD 1 []) [] _ (Wx.ext E) Om (by decide) (Bs.nil _ _) Om Om) ?_;rintro e _ ⟨_, _, rfl, WB, ex⟩;obtain ⟨E,B4,B8,Vw,Wa⟩ := eQ ex E B4 B8 Vw Wa;refine aU ?_;refine bz 5 rfl func47 rfl (dN P1 none WW WX 0 0 12 jl (ts.getD 1 []) [] _ (Wx.ext E) Om (by decide) (Bs.nil _ _) Om Om) ?_;rintro e _ ⟨_, _, rfl, Xb, ex⟩;obtain ⟨E,B4,B8,Vw,Wa,WB⟩ := iJ ex E B4 B8 Vw Wa WB;refine aU ?_;have XK := E.size; have XL := Vw.lt; have XM := B8.lt; have XN := B4.lt;refine bz 7 rfl func55 rfl (vg _ WB Xb Wa Om (Bs.nil _ _) Om Om) ?_;rintro e _ ⟨VP, VQ, rfl, Wb, ex⟩;refine au 1 ?_;obtain ⟨E,B4,B8,Vw⟩ := bU ex E B4 B8 Vw;rw [← hV] at Wb; have WZ := Wb.bn.2;refine zm [8, 9, 10, 11] ?_;refine aL 12 Kr ?_; refine aQ rfl (aq (i := 1) rfl rfl rfl Kr Vw Nb) rfl ?_;rintro _ VF ⟨rfl, WD, cg⟩;refine ⟨.inl rfl, ?_⟩;replace E := E.aA cg Om; replace B8 := B8.aA cg Om; replace B4 := B4.aA cg Om; replace Wb := Wb.aA cg (by intro b o e; have := WZ b o e; omega); replace Vw := WD.congr (cs' := fK an ⟨VP, VE + 16, VQ⟩) rfl;refine aU ?_
 have X : AV w VF.heap.size VO g8 g10 ss ⟨VP, VE + 16, VQ⟩ (ts.getD 0 []) seed V gs 0 none 0 [] VF := ⟨Nat.le_refl _, fun k h => (by cases h), E, B4, B8, Vw, jt.empty _ _ _ _ _ _, ⟨Wb.bs, fun _ b o e hm => by have := WZ b o e; simp [Value.ownBlock] at hm; rcases hm with h | h | h <;> omega⟩, fun v hv => by simp at hv; subst hv; exact Wv.of Wb.nw Om (by simp [Value.ownBlock]; omega)⟩
 have Xc := Vw.lt; have n8 := B8.lt; have n4 := B4.lt; have WE := Wb.cap;refine aD (fun n' L wr => ∃ (i : Nat) (A : Oa) (c : Nat) (vals : List Value), L = [(2, .slice G.A G.n G.c), (3, .slice D.A D.n D.c), (4, .pointer (some ⟨VO, 0, none⟩)), (8, .pointer (some ⟨g8, 0, none⟩)), (10, .pointer (some ⟨g10, 0, none⟩)), (12, .int .i64 (i : Int))] ∧ n' = G.n - i ∧ (i ≤ G.n ∧ AV w VF.heap.size VO g8 g10 ss ⟨VP, VE + 16, VQ⟩ (ts.getD 0 []) seed V gs i A c vals wr)) _ _ ⟨0, none, 0, [], rfl, rfl, Nat.zero_le _, X⟩ Ls ?_;rintro _ n' L wr ⟨i, A, c, vals, rfl, rfl, _, X⟩ Xd;refine aU ?_;refine ak rfl (fun Xe => ?_) (fun Xe => ?_)
 ·skip;obtain ⟨b, o, y, f0, f1, f2, f3, f4, f5, f6, f7, hA, hxy, hcx, Hq, HP, HY⟩ := Kk HG (i := i) Om;obtain ⟨hys, hyw⟩ := hs y (List.mem_of_getElem? hxy);have ew : sO (ts.getD 0 []) seed V gs i = Fc (ts.getD 0 []) seed V i y := by unfold sO; rw [show gs.getD i ⟨Pack.zero, []⟩ = y from by rw [List.getD_eq_getElem?_getD, hxy]; rfl]
  have lq := Hq.1; have lY := HY.1; have XO := hys.1;refine au 6 ?_;refine eD (fun L Wg => ∃ (qq : Bool), L = [(2, .slice G.A G.n G.c), (3, .slice D.A D.n D.c), (4, .pointer (some ⟨VO, 0, none⟩)), (8, .pointer (some ⟨g8, 0, none⟩)), (10, .pointer (some ⟨g10, 0, none⟩)), (12, .int .i64 (i : Int)), (81, .bool qq)] ∧ (qq = decide (¬ dk y.pk ∨ ¬ qG (ts.getD 0 []) y.way) ∧ AV w VF.heap.size VO g8 g10 ss ⟨VP, VE + 16, VQ⟩ (ts.getD 0 []) seed V gs i A c vals Wg)) ?_ ?_
  ·refine au 3 ?_;refine al (cH (s := 9) (j := i) hA rfl rfl Tn.u Kr rfl Om) ?_;refine au 1 ?_;refine al (dP (cs := dH f0 f1 f2 f3 y.pk.leaf.src f4 f5 f6) rfl Tn.u rfl Kr fun j v hv => by rw [Addr.add_plain]; exact hcx _ X.e j v (pa hv)) ?_;refine aC func10 rfl (uA _ (HP.ext X.e)) ?_;rintro e _ ⟨rfl, ex⟩;replace X := X.ext ex;refine au 1 ?_;refine lJ (nr rfl) rfl (fun q0 => ?_) (fun q0 => ?_)
   ·refine aU ?_;refine bZ 72 rfl rfl rfl ?_;refine bZ 72 rfl rfl rfl ?_;refine bZ 72 rfl rfl rfl ?_;refine bZ 72 rfl rfl rfl ?_;refine bZ 72 rfl rfl rfl ?_;refine bZ 72 rfl rfl rfl ?_;refine bZ 72 rfl rfl rfl ?_;refine aU ?_;exact bd _ ⟨true, rfl, (decide_eq_true (.inl (by simpa using q0))).symm, X⟩ Ls
   refine au 2 ?_;refine pt 58 (af rfl Tn.u rfl (X.b4.get WV)) ?_;refine au 1 ?_;refine aG 58 rfl rfl (gO rfl rfl) rfl (fun q1 => ?_) (fun q1 => ?_)
   ·refine aU ?_;refine bZ 72 rfl rfl rfl ?_;refine bZ 72 rfl rfl rfl ?_;refine bZ 72 rfl rfl rfl ?_;refine bZ 72 rfl rfl rfl ?_;refine bZ 72 rfl rfl rfl ?_;refine bZ 72 rfl rfl rfl ?_;refine bZ 72 rfl rfl rfl ?_;refine aU ?_;exact bd _ ⟨true, rfl, (decide_eq_true (.inr fun h => by have := h.1; omega)).symm, X⟩ Ls
   refine au 4 ?_;refine pt 64 (cH (s := 9) (j := i) hA rfl rfl Tn.u Kr rfl Om) ?_;refine au 1 ?_;refine pt 64 (af rfl Tn.u rfl (hcx _ X.e 8 _ rfl)) ?_;refine au 1 ?_;refine aG 64 rfl rfl (gO rfl rfl) rfl (fun q2 => ?_) (fun q2 => ?_)
   ·refine au 3 ?_;refine pt 72 (cH (s := 9) (j := i) hA rfl rfl Tn.u Kr rfl Om) ?_;refine au 1 ?_;refine pt 72 (af rfl Tn.u rfl (hcx _ X.e 8 _ rfl)) ?_;refine au 1 ?_;refine aG 72 rfl rfl (gO rfl rfl) rfl (fun q3 => ?_) (fun q3 => ?_)
    ·refine aU ?_;exact bd _ ⟨true, rfl, (decide_eq_true (.inr fun h => by rcases h.2 with h | h <;> omega)).symm, X⟩ Ls
    refine aU ?_;exact bd _ ⟨false, rfl, (decide_eq_false (fun h => h.elim (fun h => h (by simpa using q0)) (fun h => h ⟨by omega, .inr Om⟩))).symm, X⟩ Ls
   refine aU ?_;exact bd _ ⟨false, rfl, (decide_eq_false (fun h => h.elim (fun h => h (by simpa using q0)) (fun h => h ⟨by omega, .inl Om⟩))).symm, X⟩ Ls
  rintro L Wg ⟨qq, rfl, hqq, X⟩;refine aU ?_;refine bB rfl (fun Wh => ?_) (fun Wh => ?_)
  ·rw [hqq] at Wh;have hno := of_decide_eq_true Wh;have W0 : sO (ts.getD 0 []) seed V gs i = (lB.zero, 3) := by rw [ew]; unfold Fc; rw [if_pos hno]
   have e2 := Dc Om X.co (show (sO (ts.getD 0 []) seed V gs i).2 ≠ 0 by rw [W0]; decide);rw [W0] at e2;refine au 2 ?_;refine al (ar rfl (cells := fK an an) Kr) ?_;refine ag (aP (o := 0) rfl rfl Kr X.b8 Nb (aO rfl)) rfl ?_;rintro _ _ ⟨rfl, D8, cg⟩;have Xf := X.e.aA cg Om; replace D8 := D8.congr (cs' := fK an an) rfl;refine aU ?_;refine hret rfl rfl D8 rfl ?_;rw [e1, e2]; exact ⟨_, rfl, mF _, fun h => (by cases h), Xf⟩
  rw [hqq] at Wh;have hok := of_decide_eq_false Wh;have Ww : sO (ts.getD 0 []) seed V gs i = (⟨ik y.pk, (jW (ts.getD 0 []) seed V i y).1, (jW (ts.getD 0 []) seed V i y).2.1⟩, (jW (ts.getD 0 []) seed V i y).2.2) := by rw [ew]; unfold Fc; rw [if_neg hok]
  have W3 := Ok y.pk.init (CJ seed i) (Hk.info jI V) (rv (ts.getD 0 []) y.way) [];refine aU ?_;refine aC func56 rfl (jk 4 i _ Om Om) ?_;rintro e _ ⟨Xg, Xh, rfl, Xi, ex⟩;refine aU ?_;replace X := X.ext ex;have Xj := Xi.bs;refine aC func47 rfl (dN D.A Xg D.n D.c 4 Xh 32 GL seed _ _ (Bs.ext HD X.e) Om (by decide) Xj Om Om) ?_;rintro e _ ⟨W4, Xk, rfl, Wc, ex⟩;replace X := X.ext ex;replace Wc : Bs _ W4 32 (CJ seed i) := Wc;refine aU ?_;refine az Kr 25 rfl ?_; intro Xl ex Xm;obtain ⟨X,Wc⟩ := aZ ex X Wc;refine zm [0, 1] ?_;refine my 2 rfl (cH (s := 9) (j := i) hA rfl rfl Tn.u Kr rfl Om) ?_;refine zm [3, 4] ?_;refine my 5 rfl (af rfl Tn.u rfl (hcx _ X.e 0 _ rfl)) ?_;refine zm [6, 7] ?_;refine my 8 rfl (af rfl Tn.u rfl (X.b10.get (i := 1) rfl)) ?_;refine zm [9] ?_;refine my 10 rfl (af rfl Tn.u rfl (X.b4.get WV)) ?_;refine zm [11, 12] ?_;refine my 13 rfl (cH (s := 9) (j := i) hA rfl rfl Tn.u Kr rfl Om) ?_;refine zm [14] ?_;refine my 15 rfl (af rfl Tn.u rfl (hcx _ X.e 8 _ rfl)) ?_;refine bz 16 rfl func58 rfl (ow _ (HJ.ext X.e) (Bs.ext HY X.e) Om Om) ?_;rintro e VM ⟨WG, WH, WI, rfl, WO, _, ex⟩;refine aU ?_;obtain ⟨X,Wc⟩ := aZ ex X Wc;have WS := WO.bs;have Xn := X.e.size; have hown := fun g hg => (X.el.2.1.mU (m := i) g hg); have Xo := Nat.lt_of_lt_of_le Xc X.bs; have Xp := Nat.lt_of_lt_of_le n8 X.bs; have Xq := Nat.lt_of_lt_of_le n4 X.bs;refine bz 17 rfl func57 rfl (AK f0.A W4 VP WG jI f0.n f0.c 32 Xk (VE + 16) VQ WH WI y.pk.init (CJ seed i) V (rv (ts.getD 0 []) y.way) _ pW (Bs.ext Hq X.e) Om Wc Om X.ib.1 Om WS Om) ?_;rintro e _ ⟨_, VG, VH, _, VI, VJ, rfl, Vv, Vu, _, _, Xr, t8, ex⟩;replace X := X.ext ex;obtain ⟨VU, VV⟩ := t8;refine zm [18, 19, 20, 21, 22, 23, 24] ?_;refine ak rfl (fun WT => ?_) (fun WT => ?_)
  ·refine au 2 ?_;refine al (ar rfl (cells := fK an an) Kr) ?_;refine au 2 ?_;refine ag (aP (o := 0) rfl rfl Kr X.b8 Nb (aO rfl)) rfl ?_;rintro _ _ ⟨rfl, D8, cg⟩;have Xs := X.e.aA cg Om; replace D8 := D8.congr (cs' := fK an an) rfl;refine aU ?_;refine hret rfl rfl D8 rfl ?_;have e2 := Dc Om X.co (show (sO (ts.getD 0 []) seed V gs i).2 ≠ 0 by rw [Ww]; intro h; exact WT (by rw [show (sl y.pk.init (CJ seed i) (Hk.info jI V) (rv (ts.getD 0 []) y.way) []).2.2 = 0 from h]; rfl));rw [Ww] at e2;rw [e1, e2]; exact ⟨_, rfl, mF _, fun h => absurd (show (sl y.pk.init (CJ seed i) (Hk.info jI V) (rv (ts.getD 0 []) y.way) []).2.2 = 0 from h) (fun h => WT (by rw [h]; rfl)), Xs⟩
  refine aU ?_;have W5 : (sl y.pk.init (CJ seed i) (Hk.info jI V) (rv (ts.getD 0 []) y.way) []).2.2 = 0 := by omega
  obtain ⟨s1, s2⟩ := Mz W5;obtain ⟨b7, o7, rfl, m7, _⟩ := Vv.get (k := 0) (by have := Vv.1; omega);obtain ⟨b8, o8, rfl, m8, _⟩ := Vu.get (k := 0) (by have := Vu.1; omega);have t81 := (VU _ _ rfl).1;have t82 := (VV _ _ rfl).1;refine az Kr 16 rfl ?_; intro Xt ex Xu;obtain ⟨X,Vv,Vu,VU,VV⟩ := eQ ex X Vv Vu VU VV;refine zm [0] ?_;refine my 1 rfl (af rfl Tn.u rfl (X.b10.get (i := 0) rfl)) ?_;refine zm [2, 3] ?_;refine dg 4 rfl (fun _ => cH (s := 9) (j := i) hA rfl rfl Tn.u Kr rfl Om) ?_;refine zm [5] ?_;refine my 6 rfl (dP (cs := dH f0 f1 f2 f3 y.pk.leaf.src f4 f5 f6) rfl Tn.u rfl Kr fun j v hv => by rw [Addr.add_plain]; exact hcx _ X.e j v (pa hv)) ?_;refine zm [8, 9] ?_;refine dg 10 rfl (fun _ => ar rfl (cells := fK ⟨some ⟨b7, o7, none⟩, VG, VH⟩ ⟨some ⟨b8, o8, none⟩, VI, VJ⟩) Kr) ?_;have Xv := Bs.RR Vu (by have := Vu.1; omega);refine bz 7 rfl func11 rfl (tP _ (HP.ext X.e) hys) ?_;rintro e _ ⟨_, VN, rfl, We, ex⟩;refine aU ?_;obtain ⟨X,Vv,Vu,VU,VV⟩ := eQ ex X Vv Vu VU VV;obtain ⟨b9, _, rfl, _⟩ := We.get (i := 0) Om; have Wf := We.bs; have WU := We.nw;refine dg 11 rfl (fun _ => ar rfl (cells := fx ⟨some ⟨b9, 0, none⟩, 32, VN⟩ ⟨some ⟨b7, o7, none⟩, VG, VH⟩ ⟨some ⟨b8, o8, none⟩, VI, VJ⟩) Kr) ?_;have Xw := X.e.size; have zb := X.bs;refine aL 12 Kr ?_; refine aQ rfl (rF (cells := fx ⟨some ⟨b9, 0, none⟩, 32, VN⟩ ⟨some ⟨b7, o7, none⟩, VG, VH⟩ ⟨some ⟨b8, o8, none⟩, VI, VJ⟩) Tn.u rfl Kr) rfl ?_;rintro _ Wi ⟨_, rfl, Xx, _, ex⟩;refine ⟨.inr ex, ?_⟩;obtain ⟨X,Vv,Vu,VU,VV,Wf,WU⟩ := iO ex X Vv Vu VU VV Wf WU;have Xy := ex.size;refine aL 13 Kr ?_; refine aQ rfl (xc (A := A) (n := i) (c := c) rfl rfl NK X.el.2.1 Xx rfl (aO rfl) Om Om Om) rfl ?_;rintro _ _ ⟨A4, c4, rfl, R4, Wj, hgl⟩;refine ⟨.inl rfl, ?_⟩;have C4 := aE.IF Wj; have y4 := C4.size;refine zm [14] ?_;refine aL 15 Kr ?_; refine aQ rfl (aq (i := 0) rfl rfl rfl Kr (X.b10.bk C4 (fun hm => by have := hown _ hm; omega)) Nb) rfl ?_;rintro _ Wk ⟨rfl, WD, cg⟩;refine ⟨.inl rfl, ?_⟩;have hno : ∀ {b : Nat}, b < VF.heap.size → b ∉ (Value.slice A i c).ownBlock.toList := fun hb hm => by have := hown _ hm; omega
  have hn : ∀ {b : Nat}, VM.heap.size ≤ b → b ∉ (Value.slice A i c).ownBlock.toList ++ [g10, g8, VO] := fun hb hm => by
   rcases List.mem_append.1 hm with h | h
   ·have := hown _ h; omega
   simp at h; rcases h with h | h | h <;> omega
  have hx : nE (Bx ((Value.slice A i c).ownBlock.toList ++ [g10, g8, VO]) Wi) (fx ⟨some ⟨b9, 0, none⟩, 32, VN⟩ ⟨some ⟨b7, o7, none⟩, VG, VH⟩ ⟨some ⟨b8, o8, none⟩, VI, VJ⟩) (sO (ts.getD 0 []) seed V gs i).1 := by rw [Ww];exact ⟨_, _, _, rfl, ⟨Wf, fun _ b o e => by injection e with e; injection e with e _ _; exact hn Om⟩, ⟨Vv, fun _ b o e => by injection e with e; injection e with e _ _; exact hn Om⟩, ⟨Vu, fun _ b o e => by injection e with e; injection e with e _ _; exact hn Om⟩, Xr⟩
  have XX : AV w VF.heap.size VO g8 g10 ss ⟨VP, VE + 16, VQ⟩ (ts.getD 0 []) seed V gs (i + 1) A4 c4 (vals ++ (fx ⟨some ⟨b9, 0, none⟩, 32, VN⟩ ⟨some ⟨b7, o7, none⟩, VG, VH⟩ ⟨some ⟨b8, o8, none⟩, VI, VJ⟩).toList) Wk := by
   refine ⟨Nat.le_trans X.bs (Nat.le_trans y4 cg.size), fun k hk => ?_, (Below.grown X.e Wj Om (fun k e => by have := hown k (by rw [e]; simp); omega)).aA cg Om, (X.b4.bk C4 (hno n4)).aA cg Om, (X.b8.bk C4 (hno n8)).aA cg Om, WD, ?_, (X.ib.grown Wj hgl).bk (aE.one cg) (by simp), fun v hv => ?_⟩
   ·rcases Nat.lt_or_ge k i with h | h
    ·exact X.co k h
    obtain rfl : k = i := by omega
    rw [Ww]; exact W5
   ·rw [List.range_succ, List.map_append];exact (X.el.app nE.imp hx rfl R4 Wj hgl).bk nE.imp (aE.one cg) (by simp) So
   refine Wv.bk (Wv.grown ?_ Wj hgl) (aE.one cg) (by simp);have hS : ∀ g ∈ (Value.slice A i c).ownBlock.toList ++ [g10, g8, VO], g < VM.heap.size := fun g hg => Nat.lt_of_not_le fun h => hn h hg;rw [← List.cons_append] at hv;rcases List.mem_append.1 hv with hv | hv
   ·exact X.nw v hv
   simp only [fx, List.mem_cons, List.not_mem_nil, or_false] at hv;rcases hv with rfl | rfl | rfl
   ·exact Wv.of (WU.lo (b := VM.heap.size) Om) Om hS
   ·exact Wv.of VU Om hS
   exact Wv.of VV Om hS
  refine au 9 ?_;refine ae ?_;refine Xd _ _ ⟨i + 1, A4, c4, vals ++ (fx ⟨some ⟨b9, 0, none⟩, 32, VN⟩ ⟨some ⟨b7, o7, none⟩, VG, VH⟩ ⟨some ⟨b8, o8, none⟩, VI, VJ⟩).toList, rfl, rfl, by omega, XX⟩ Om Ls
 refine au 7 ?_;refine al (aW rfl Tn.u rfl Kr X.b10) ?_;refine ag (aP (o := 0) rfl rfl Kr X.b8 Nb (aO rfl)) rfl ?_;rintro _ Wl ⟨rfl, D8, cg⟩;replace D8 := D8.congr (cs' := fK ⟨A, i, c⟩ ⟨VP, VE + 16, VQ⟩) rfl;refine aU ?_;refine hret rfl rfl D8 rfl ?_;have hn : i = gs.length := by omega
 have e2 := Ic (j := ts.getD 0 []) (seed := seed) (inf := V) (gs := gs) (fun k hk => X.co k Om)
 have hS : GC w.heap.size Wl (fK ⟨A, i, c⟩ ⟨VP, VE + 16, VQ⟩) ⟨(List.range gs.length).map fun i => (sO (ts.getD 0 []) seed V gs i).1, V⟩ := by rw [← hn];have h1 := X.el.bk nE.imp (aE.one cg) (by simp) So;have h2 : ∀ v ∈ Value.slice VP (VE + 16) VQ :: vals, Wv _ w.heap.size Wl v := fun v hv => (X.nw v hv).bk (aE.one cg) (by simp);exact ⟨A, i, c, ⟨VP, VE + 16, VQ⟩, rfl, ⟨h1.1, vals, h1.2.1.len, h1.2.1.at, fun i x hx => (h1.2.2 i x hx).bw fun v hv => h2 v (List.mem_cons_of_mem _ (List.mem_of_mem_drop (List.mem_of_mem_take hv)))⟩, ⟨(X.ib.bk (aE.one cg) (by simp)).1, fun b o n c e hn => by obtain ⟨h1, _, r⟩ := h2 _ (List.mem_cons_self ..) b o n c e hn; exact ⟨h1, by simp, r⟩⟩, WE⟩
 rw [e1, e2]; exact ⟨_, rfl, hS.ac, fun _ => hS, X.e.aA cg Om⟩
end
section
open Go.RowKit Tryz
attribute [local irreducible] Y Ef WL WC WK WQ WM cv WN WF cZ WJ gI WR qK
open Wire Nd Hk
def yw (w : World) (cs : Array Value) (p : Nat × Nat) : Prop := cs = #[.int .u8 (p.1 : Int), .int .u8 (p.2 : Int)] ∧ p.1 < 256 ∧ p.2 < 256
abbrev QA := List UInt8 × List UInt8 × List UInt8
def iE (B : Hd → List UInt8 → Prop) (cs : Array Value) (k : QA) : Prop := ∃ h0 h1 h2 : Hd, cs = fx h0 h1 h2 ∧ B h0 k.1 ∧ B h1 k.2.1 ∧ B h2 k.2.2
theorem iE.imp : NL iE := fun _ _ _ _ ⟨a, b, c, e, h1, h2, h3⟩ f => ⟨a, b, c, e, f _ _ h1, f _ _ h2, f _ _ h3⟩
theorem Cq.imp' : NL Cq := fun _ _ _ _ h f => h.imp f
def zC (p : Nat × Nat) : List UInt8 := qZ (10 + p.1)
def rG (p : Nat × Nat) : List UInt8 := if 0 < p.2 then qZ p.2 else []
def Gw (z : Int) (i : Nat) (p : Nat × Nat) : List UInt8 := if (i : Int) = z ∧ p.2 = 9 then [1] else rG p
def NN (p : Nat × Nat) : List UInt8 := mS (wv (zC p))
def MZ (z : Int) (i : Nat) (p : Nat × Nat) : List UInt8 := if (i : Int) = z ∧ p.2 = 8 then [] else NN p
def Pb (z : Int) (i : Nat) (p : Nat × Nat) : List UInt8 := if (i : Int) = z ∧ p.2 = 7 then List.replicate 32 0 else MZ z i p
def gl (p : Nat × Nat) : Pack := RA [UInt8.ofNat p.1] (zC p)
def SR (z : Int) (i : Nat) (p : Nat × Nat) : Gs := ⟨⟨Pb z i p, (gl p).leaf, (gl p).sig⟩, Gw z i p⟩
def keyOf (p : Nat × Nat) : QA := (lv (wv (zC p)), lv (IE (zC p)), yg (zC p))
def jY (z : Int) (ps : List (Nat × Nat)) (n : Nat) : List Gs := (List.range n).map fun i => SR z i (ps.getD i (0, 0))
def nR (ps : List (Nat × Nat)) (n : Nat) : List QA := (List.range n).map fun i => keyOf (ps.getD i (0, 0))
theorem PD : vT Tryz.prog 58 68 9 200 := vT.of (z := .agg (L6 an an an an 0 an an an an)) underlying58 Kr Kr Om
theorem Mi : vT Tryz.prog 59 51 3 72 := vT.of (z := .agg #[.slice none 0 0, .slice none 0 0, .slice none 0 0]) underlying59 Kr Kr Om
theorem nd {xs : Lb} (F : Fb base w h.A h.n xs) (hS : ∀ g ∈ S, g < base ∨ ∃ t vs, ao w g t vs ∧ vs.size ≤ 8 ∧ t ≠ 5) (hh : h.n = 0 ∨ 8 < h.n ∨ ∀ b o, h.A = some ⟨b, o, none⟩ → ∃ cur, ao w b 5 cur) : Bx S w h xs := ⟨F.1, fun hn b o e hm => by
 rcases hS b hm with h1 | ⟨t, vs, hb, hz, ht⟩
 ·have := F.2 hn b o e; omega
 rcases hh with h | h | h
 ·omega
 ·exact F.1.GD hb Om o e
 obtain ⟨cur, hc⟩ := h b o e;have h2 : some (Obj.cells vs t) = some (Obj.cells cur 5) := hb.symm.trans hc;injection h2 with h2
 injection h2 with _ h2
 exact ht h2⟩
theorem Ov (H : sX base w cs (RA ident seed)) (IT : Nz 3 w cs) (h1 : 1 ≤ ident.length) (h2 : ident.length ≤ 64) (hS : ∀ g ∈ S, g < base ∨ ∃ t vs, ao w g t vs ∧ vs.size ≤ 8 ∧ t ≠ 5) : iA (Bx S w) cs (RA ident seed) := by obtain ⟨o1, ⟨⟨o2, o3, o4, _⟩, _⟩, o5⟩ := vZ (ident := ident) seed h1 h2;obtain ⟨i, p0, p1, p2, p4, p5, g, rfl, hs, a, b0, b1, b2, b4, b5, c⟩ := H;have l := a.1.1; have l0 := b0.1.1; have l1 := b1.1.1; have l5 := b5.1.1; have l6 := c.1.1;exact ⟨i, p0, p1, p2, p4, p5, g, rfl, hs, nd a hS (.inr (.inl Om)), nd b0 hS (.inr (.inl Om)), nd b1 hS (.inr (.inl Om)), nd b2 hS (.inr (.inr fun b o e => IT _ _ _ rfl b o e)), nd b4 hS (.inl b4.1.1.symm), nd b5 hS (.inr (.inl Om)), nd c hS (.inr (.inl Om))⟩
theorem Sn {a b c : Lb} (H : CL base w cs a b c) (h1 : a.length = 32) (h2 : b.length = 32) (h3 : c.length = 32) (hS : ∀ g ∈ S, g < base ∨ ∃ t vs, ao w g t vs ∧ vs.size ≤ 8 ∧ t ≠ 5) : iE (Bx S w) cs (a, b, c) := by obtain ⟨p0, p1, p2, rfl, x, y, z⟩ := H;have l0 := x.1.1; have l1 := y.1.1; have l2 := z.1.1;exact ⟨p0, p1, p2, rfl, nd x hS (.inr (.inl Om)), nd y hS (.inr (.inl Om)), nd z hS (.inr (.inl Om))⟩
theorem iA.inj {B : Hd → List UInt8 → Prop} {i g : Hd} {p : Pack} (h : iA B (dH i h0 h1 h2 s h4 h5 g) p) : p.leaf.src < 256 ∧ B i p.init ∧ B h0 p.leaf.box ∧ B h1 p.leaf.sign ∧ B h2 p.leaf.ident ∧ B h4 p.leaf.parent ∧ B h5 p.leaf.sig ∧ B g p.sig := by obtain ⟨i', Vq, Vr, Vs, Vt, Vu, g', e, hs, a, b0, b1, b2, b4, b5, c⟩ := h;unfold dH at e;simp only [Array.mk.injEq, List.cons.injEq, Value.slice.injEq, and_true] at e;obtain ⟨e1, e2, e3, e4, _, e5, e6, e7⟩ := e;cases i; cases h0; cases h1; cases h2; cases h4; cases h5; cases g;cases i'; cases Vq; cases Vr; cases Vs; cases Vt; cases Vu; cases g';simp_all
def Fx (base g : Nat) (W : World) (h : Hd) (xs : Lb) : Prop := Fb base W h.A h.n xs ∧ (0 < h.n → ∀ b o, h.A = some ⟨b, o, none⟩ → b ≠ g)
structure GB (wq : World) (base g13 : Nat) (p0 p1 p2 : Hd) (s : Nat) (p4 p5 pg hi y : Hd) (ini way : Lb) (W : World) : Prop where
 e : Ext wq W
 b : ao W g13 68 (L6 hi p0 p1 p2 s p4 p5 pg y)
 fi : Fx base g13 W hi ini
 fy : Fx base g13 W y way
section
variable {W : World} {g13 : Nat} {p0 p1 p2 p4 p5 pg hi y hi' y' : Hd} {ini way ini' way' xs : Lb}
theorem Fx.aA (h1 : Fx base g W h xs) (cg : lF W g W') : Fx base g W' h xs := ⟨⟨((Kp.bs (S := [g]) h1.1.1 fun hn k hk o e => by simp at hk; subst hk; exact h1.2 hn _ _ e rfl).bk (aE.one cg) (fun _ h => h)).out, h1.1.2⟩, h1.2⟩
theorem Fx.ext (h1 : Fx base g W h xs) (e : Ext W W') : Fx base g W' h xs := ⟨h1.1.ext e, h1.2⟩
theorem Fx.nil (base g : Nat) (W : World) : Fx base g W an [] := ⟨Fb.nil _ _ _, fun h => absurd h (Nat.lt_irrefl 0)⟩
theorem Fx.new (H : Bs W (some ⟨b, 0, none⟩) n xs) (h1 : base ≤ b) (h2 : b ≠ g) : Fx base g W ⟨some ⟨b, 0, none⟩, n, c⟩ xs :=
 ⟨⟨H, fun _ _ _ e => by injection e with e; injection e with e; omega⟩, fun _ _ _ e => by injection e with e; injection e with e; omega⟩
theorem GB.ext (h : GB wq base g13 p0 p1 p2 s p4 p5 pg hi y ini way W) (x : Ext W W') : GB wq base g13 p0 p1 p2 s p4 p5 pg hi y ini way W' := ⟨h.e.tr x, h.b.ext x, h.fi.ext x, h.fy.ext x⟩
theorem GB.put (h : GB wq base g13 p0 p1 p2 s p4 p5 pg hi y ini way W) (cg : lF W g13 W') (hg : wq.heap.size ≤ g13) (D : ao W' g13 68 (L6 hi' p0 p1 p2 s p4 p5 pg y')) (fi : Fx base g13 W' hi' ini') (fy : Fx base g13 W' y' way') : GB wq base g13 p0 p1 p2 s p4 p5 pg hi' y' ini' way' W' :=
 ⟨h.e.aA cg hg, D, fi, fy⟩
end
theorem Kt (h : n < 256) : #[Value.int .u8 (n : Int)] = dd [UInt8.ofNat n] := by simp [dd, bv, UInt8.toNat_ofNat']; omega
theorem AY {ps : List (Nat × Nat)} (z : Int) (w : World) (HA : rl yw 2 w A n ps) (hn : n ≤ 1000) :
  Ct 16 #[.slice A n c, .int .i64 z] w fun e w' => ∃ A1 c1 A2 c2, e = .returned (.tuple #[.slice A1 n c1, .slice A2 n c2, .bool true]) ∧ rl tX 9 w' A1 n (jY z ps n) ∧ rl (fun w => iE (py w)) 3 w' A2 n (nR ps n) ∧ (∀ b o, A1 = some ⟨b, o, none⟩ ∨ A2 = some ⟨b, o, none⟩ → w.heap.size ≤ b) ∧ Ext w w' := by
 have E := Ext.refl w;have hpl := HA.1;refine fZ 108 func16 rfl rfl rfl rfl ?_;intro _ hret;refine aU ?_;refine aD (fun n' L wr => ∃ (i : Nat) (A7 : Oa) (c7 : Nat) (A8 : Oa) (c8 : Nat) (v7 v8 : List Value), L = [(0, .slice A n c), (1, .int .i64 z), (7, .slice A7 i c7), (8, .slice A8 i c8), (9, .int .i64 (i : Int))] ∧ n' = n - i ∧ (i ≤ n ∧ Ext w wr ∧ jt Cq 9 68 w.heap.size ((Value.slice A8 i c8).ownBlock.toList ++ []) wr A7 i c7 (jY z ps i) v7 ∧ jt iE 3 51 w.heap.size ((Value.slice A7 i c7).ownBlock.toList ++ []) wr A8 i c8 (nR ps i) v8 ∧ (∀ g ∈ (Value.slice A7 i c7).ownBlock.toList, g ∉ (Value.slice A8 i c8).ownBlock.toList))) _ _ ⟨0, none, 0, none, 0, [], [], rfl, rfl, Nat.zero_le _, E, jt.empty _ _ _ _ _ _, jt.empty _ _ _ _ _ _, fun g h => by simp [Value.ownBlock] at h⟩ Ls ?_;rintro _ n' L wr ⟨i, A7, c7, A8, c8, v7, v8, rfl, rfl, hi, E, X7, X8, hd⟩ Ws;refine aU ?_;refine ak rfl (fun Ww => ?_) (fun Ww => ?_)
 ·skip;obtain ⟨b, o, W5, p, e1, _, hx, hcz, ⟨rfl, Wj, W6⟩, hcx⟩ := HA.Ck Om (i := i) Om;have hgd : ps.getD i (0, 0) = p := by rw [List.getD_eq_getElem?_getD, hx]; rfl
  have Vv : ∀ W', Ext w W' → ∀ j v, (#[.int .u8 (p.1 : Int), .int .u8 (p.2 : Int)] : Array Value)[j]? = some v → W'.cell? ⟨b, o + i * 2 + j, none⟩ = some v := fun W' E j v hv => (Below.cell E (dX (hcx j v hv))).trans (hcx j v hv);have Z := Ext.refl wr;refine au 5 ?_;refine eD (fun L Vw => ∃ (hi p0 p1 p2 p4 p5 pg k0 k1 k2 : Hd) (Vx Vt : Nat), L = [(0, .slice A n c), (1, .int .i64 z), (7, .slice A7 i c7), (8, .slice A8 i c8), (9, .int .i64 (i : Int)), (10, .pointer (some ⟨Vx, 0, none⟩)), (11, .pointer (some ⟨Vt, 0, none⟩)), (12, .int .u8 0)] ∧ (Ext wr Vw ∧ iA (Bx ((Value.slice A7 i c7).ownBlock.toList ++ (Value.slice A8 i c8).ownBlock.toList) Vw) (dH hi p0 p1 p2 (gl p).leaf.src p4 p5 pg) (gl p) ∧ iE (Bx ((Value.slice A7 i c7).ownBlock.toList ++ (Value.slice A8 i c8).ownBlock.toList) Vw) (fx k0 k1 k2) (keyOf p) ∧ Fb wr.heap.size Vw hi.A hi.n (NN p) ∧ ao Vw Vx 29 (dH hi p0 p1 p2 (gl p).leaf.src p4 p5 pg) ∧ ao Vw Vt 51 (fx k0 k1 k2) ∧ wr.heap.size ≤ Vt)) ?_ ?_
  ·skip;refine dB Kr 24 rfl ?_; intro Wx ex W9;obtain ⟨E,Z⟩ := aZ ex E Z;have VK := E;have VL := Z;have X0 := Ext.refl Wx;refine zm [0, 1] ?_;refine cS 2 rfl Kr (cH (s := 2) (j := i) e1 rfl rfl Tn.u Kr rfl Om) rfl ?_;refine zm [3] ?_;refine cS 4 rfl Kr (af rfl Tn.u rfl (Vv _ VK 0 _ rfl)) rfl ?_;refine zm [6, 7] ?_;refine cS 8 rfl Kr (cH (s := 2) (j := i) e1 rfl rfl Tn.u Kr rfl Om) rfl ?_;refine zm [9] ?_;refine cS 10 rfl Kr (af rfl Tn.u rfl (Vv _ VK 0 _ rfl)) rfl ?_;refine zm [11] ?_;refine cS 12 rfl Kr (aN rfl rfl (show _ = (((10 + p.1 : Nat)) : Int) from bj Om Om)) rfl ?_;refine dC (fl := [rQ 19 10 29 (dH an an an an 0 an an an), rQ 20 11 51 (fx an an an)]) rfl ?_;refine PV (i := 5) (j := 13) ⟨(aT (bM rfl Kr) (aT (bM rfl Kr) av)), of_decide_eq_true rfl, of_decide_eq_true rfl, (aT (⟨rfl, of_decide_eq_true rfl⟩) (aT (⟨rfl, of_decide_eq_true rfl⟩) av)), (aT (aV Kr) (aT (aV Kr) av))⟩ Kr ?_ ?_
   ·skip;refine ⟨(aT (of_decide_eq_true rfl) (aT (of_decide_eq_true rfl) av)), _, _, _, _, _, rfl, (aT (of_decide_eq_true rfl) (aT (of_decide_eq_true rfl) av)), rfl, ?_⟩;intro VM ex exb;obtain ⟨E,Z,X0⟩ := bF ex E Z X0;refine Ef.mono (aF (z := .int .u8 0) underlying23 Kr rfl rfl rfl rfl rfl) ?_;rintro _ Wy ⟨Wz, rfl, V0, V4, ex⟩;refine ⟨ex, ?_⟩;obtain ⟨E,Z,X0⟩ := bF ex E Z X0;have VB := bh (xs := [UInt8.ofNat p.1]) (V0.congr (Kt Wj)) rfl;refine kM 13 (some 34) func28 ?_;intro VG ex exb;obtain ⟨E,Z,X0,VB⟩ := bU ex E Z X0 VB;refine ⟨_, (mB (10 + p.1) Om _), ?_⟩;rintro e V5 ⟨WA, rfl, VC, _, ex⟩;refine ⟨_, rfl, ex, ?_⟩;obtain ⟨E,Z,X0,VB⟩ := bU ex E Z X0 VB;refine kM 14 (some 35) func27 ?_;intro Vy ex exb;obtain ⟨E,Z,X0,VB,VC⟩ := eQ ex E Z X0 VB VC;refine ⟨_, (pM _ VB Om Om VC), ?_⟩;rintro e V6 ⟨cs, ks, rfl, HP, HI, HK, ex⟩;refine ⟨_, rfl, ex, ?_⟩;obtain ⟨E,Z,X0⟩ := bF ex E Z X0;have WB := exb.size; obtain ⟨i0, p0, p1, p2, p4, p5, pg, rfl, _, q, _⟩ := id HP; obtain ⟨k0, k1, k2, rfl, _⟩ := id HK; have q2 := q.2;refine kJ (dst := some 20) 15 rfl Kr (aY rfl) rfl (aT (of_decide_eq_true rfl) (aT (of_decide_eq_true rfl) av)) ?_;refine kJ (dst := some 36) 16 rfl Kr (dA rfl rfl) rfl (aT (of_decide_eq_true rfl) (aT (of_decide_eq_true rfl) av)) ?_;refine kJ (dst := some 37) 17 rfl Kr (dA rfl rfl) rfl (aT (of_decide_eq_true rfl) (aT (of_decide_eq_true rfl) av)) ?_;refine kJ (dst := some 38) 18 rfl Kr (dA rfl rfl) rfl (aT (of_decide_eq_true rfl) (aT (of_decide_eq_true rfl) av)) ?_;refine jf ⟨(aT (bM rfl Kr) (aT (bM rfl Kr) av)), of_decide_eq_true rfl, of_decide_eq_true rfl, (aT (⟨rfl, of_decide_eq_true rfl⟩) (aT (⟨rfl, of_decide_eq_true rfl⟩) av)), (aT (aV Kr) (aT (aV Kr) av))⟩ Kr ?_;rintro _ _ WD ex ⟨⟨Vx, rfl, Vr⟩, Vz⟩ ⟨⟨Vt, rfl, Vs⟩, Vu⟩ Vq;replace Vz := Vz Vx rfl;replace Vu := Vu Vt rfl;have VA : Vx ≠ Vt := fun e => Vq Vx rfl (by rw [e]; rfl);obtain ⟨E,Z,X0⟩ := bF ex E Z X0;have z0 := VL.size;have HP := HP.ext ex;have HI := HI.ext ex;have HK := HK.ext ex
    have hS : ∀ g ∈ [Vx, Vt] ++ ((Value.slice A7 i c7).ownBlock.toList ++ (Value.slice A8 i c8).ownBlock.toList), g < Vy.heap.size ∨ ∃ t vs, ao _ g t vs ∧ vs.size ≤ 8 ∧ t ≠ 5 := fun g hg => by
     rcases List.mem_append.1 hg with h | h
     ·simp at h;rcases h with rfl | rfl
      ·exact .inr ⟨_, _, Vr, by decide, by decide⟩
      exact .inr ⟨_, _, Vs, by decide, by decide⟩
     have h3 : g < wr.heap.size := by
      rcases List.mem_append.1 h with h | h
      ·exact (X7.2.1.mU (m := i) g h).2
      exact (X8.2.1.mU (m := i) g h).2
     exact .inl Om
    have PX := Ov HP HI (by simp) (by simp) hS;have KX := Sn HK (dO _) (dO _) (fW _) hS;refine df 21 Kr ?_;refine eC rfl (ah rfl rfl Kr Vr rfl (aO rfl)) rfl ?_;rintro _ VH ⟨rfl, Vr, cg⟩;replace X0 := X0.aA cg Vz;refine ⟨X0, ?_⟩;replace E := VK.ext X0;replace Z := VL.ext X0;replace Vs := Vs.aA cg Om;replace PX := PX.imp fun _ _ b => b.bk (aE.one cg) (by simp); replace KX := iE.imp _ _ _ _ KX fun _ _ b => b.bk (aE.one cg) (by simp);refine df 22 Kr ?_;refine eC rfl (ah rfl rfl Kr Vs rfl (aO rfl)) rfl ?_;rintro _ VI ⟨rfl, Vs, cg⟩;replace X0 := X0.aA cg Vu;refine ⟨X0, ?_⟩;replace E := VK.ext X0;replace Z := VL.ext X0;replace Vr := Vr.aA cg Om;replace PX := PX.imp fun _ _ b => b.bk (aE.one cg) (by simp); replace KX := iE.imp _ _ _ _ KX fun _ _ b => b.bk (aE.one cg) (by simp);refine zm [23] ?_;refine dW Kr ?_;refine aU ?_;exact bd _ ⟨i0, p0, p1, p2, p4, p5, pg, k0, k1, k2, Vx, Vt, rfl, Z, PX.imp fun _ _ b => b.re (fun g hg => .inl (List.mem_append_right _ hg)), iE.imp _ _ _ _ KX fun _ _ b => b.re (fun g hg => .inl (List.mem_append_right _ hg)), ⟨PX.inj.2.1.1, fun hn b o e => Nat.le_trans Om (q2 hn b o e)⟩, Vr, Vs, by omega⟩ Ls
   skip;refine ⟨(aT (of_decide_eq_true rfl) (aT (of_decide_eq_true rfl) av)), _, _, _, _, _, rfl, (aT (of_decide_eq_true rfl) (aT (of_decide_eq_true rfl) av)), rfl, ?_⟩;intro VG ex exb;obtain ⟨E,Z,X0⟩ := bF ex E Z X0;refine kU func28 rfl rfl rfl (mB (10 + p.1) Om _) ?_;rintro e V5 ⟨WA, rfl, VC, _, ex⟩;refine ⟨_, rfl, ex, ?_⟩;obtain ⟨E,Z,X0⟩ := bF ex E Z X0;refine DE (j := 5) (dst := some 26) ⟨(aT (bM rfl Kr) (aT (bM rfl Kr) av)), of_decide_eq_true rfl, of_decide_eq_true rfl, (aT (⟨rfl, of_decide_eq_true rfl⟩) (aT (⟨rfl, of_decide_eq_true rfl⟩) av)), (aT (aV Kr) (aT (aV Kr) av))⟩ Kr (aT (of_decide_eq_true rfl) (aT (of_decide_eq_true rfl) av)) rfl (aT (of_decide_eq_true rfl) (aT (of_decide_eq_true rfl) av)) rfl ?_;intro VM ex exb;obtain ⟨E,Z,X0,VC⟩ := bU ex E Z X0 VC;refine Ef.mono (aF (z := .int .u8 0) underlying23 Kr rfl rfl rfl rfl rfl) ?_;rintro _ Wy ⟨Wz, rfl, V0, V4, ex⟩;refine ⟨ex, ?_⟩;obtain ⟨E,Z,X0,VC⟩ := bU ex E Z X0 VC;have VB := bh (xs := [UInt8.ofNat p.1]) (V0.congr (Kt Wj)) rfl;refine kM 14 (some 35) func27 ?_;intro Vy ex exb;obtain ⟨E,Z,X0,VC,VB⟩ := eQ ex E Z X0 VC VB;refine ⟨_, (pM _ VB Om Om VC), ?_⟩;rintro e V6 ⟨cs, ks, rfl, HP, HI, HK, ex⟩;refine ⟨_, rfl, ex, ?_⟩;obtain ⟨E,Z,X0⟩ := bF ex E Z X0;have WB := exb.size; obtain ⟨i0, p0, p1, p2, p4, p5, pg, rfl, _, q, _⟩ := id HP; obtain ⟨k0, k1, k2, rfl, _⟩ := id HK; have q2 := q.2;refine kJ (dst := some 20) 15 rfl Kr (aY rfl) rfl (aT (of_decide_eq_true rfl) (aT (of_decide_eq_true rfl) av)) ?_;refine kJ (dst := some 36) 16 rfl Kr (dA rfl rfl) rfl (aT (of_decide_eq_true rfl) (aT (of_decide_eq_true rfl) av)) ?_;refine kJ (dst := some 37) 17 rfl Kr (dA rfl rfl) rfl (aT (of_decide_eq_true rfl) (aT (of_decide_eq_true rfl) av)) ?_;refine kJ (dst := some 38) 18 rfl Kr (dA rfl rfl) rfl (aT (of_decide_eq_true rfl) (aT (of_decide_eq_true rfl) av)) ?_;refine jf ⟨(aT (bM rfl Kr) (aT (bM rfl Kr) av)), of_decide_eq_true rfl, of_decide_eq_true rfl, (aT (⟨rfl, of_decide_eq_true rfl⟩) (aT (⟨rfl, of_decide_eq_true rfl⟩) av)), (aT (aV Kr) (aT (aV Kr) av))⟩ Kr ?_;rintro _ _ WD ex ⟨⟨Vx, rfl, Vr⟩, Vz⟩ ⟨⟨Vt, rfl, Vs⟩, Vu⟩ Vq;replace Vz := Vz Vx rfl;replace Vu := Vu Vt rfl;have VA : Vx ≠ Vt := fun e => Vq Vx rfl (by rw [e]; rfl);obtain ⟨E,Z,X0⟩ := bF ex E Z X0;have z0 := VL.size;have HP := HP.ext ex;have HI := HI.ext ex;have HK := HK.ext ex
   have hS : ∀ g ∈ [Vx, Vt] ++ ((Value.slice A7 i c7).ownBlock.toList ++ (Value.slice A8 i c8).ownBlock.toList), g < Vy.heap.size ∨ ∃ t vs, ao _ g t vs ∧ vs.size ≤ 8 ∧ t ≠ 5 := fun g hg => by
    rcases List.mem_append.1 hg with h | h
    ·simp at h;rcases h with rfl | rfl
     ·exact .inr ⟨_, _, Vr, by decide, by decide⟩
     exact .inr ⟨_, _, Vs, by decide, by decide⟩
    have h3 : g < wr.heap.size := by
     rcases List.mem_append.1 h with h | h
     ·exact (X7.2.1.mU (m := i) g h).2
     exact (X8.2.1.mU (m := i) g h).2
    exact .inl Om
   have PX := Ov HP HI (by simp) (by simp) hS;have KX := Sn HK (dO _) (dO _) (fW _) hS;refine df 21 Kr ?_;refine eC rfl (ah rfl rfl Kr Vr rfl (aO rfl)) rfl ?_;rintro _ VH ⟨rfl, Vr, cg⟩;replace X0 := X0.aA cg Vz;refine ⟨X0, ?_⟩;replace E := VK.ext X0;replace Z := VL.ext X0;replace Vs := Vs.aA cg Om;replace PX := PX.imp fun _ _ b => b.bk (aE.one cg) (by simp); replace KX := iE.imp _ _ _ _ KX fun _ _ b => b.bk (aE.one cg) (by simp);refine df 22 Kr ?_;refine eC rfl (ah rfl rfl Kr Vs rfl (aO rfl)) rfl ?_;rintro _ VI ⟨rfl, Vs, cg⟩;replace X0 := X0.aA cg Vu;refine ⟨X0, ?_⟩;replace E := VK.ext X0;replace Z := VL.ext X0;replace Vr := Vr.aA cg Om;replace PX := PX.imp fun _ _ b => b.bk (aE.one cg) (by simp); replace KX := iE.imp _ _ _ _ KX fun _ _ b => b.bk (aE.one cg) (by simp);refine zm [23] ?_;refine dW Kr ?_;refine aU ?_;exact bd _ ⟨i0, p0, p1, p2, p4, p5, pg, k0, k1, k2, Vx, Vt, rfl, Z, PX.imp fun _ _ b => b.re (fun g hg => .inl (List.mem_append_right _ hg)), iE.imp _ _ _ _ KX fun _ _ b => b.re (fun g hg => .inl (List.mem_append_right _ hg)), ⟨PX.inj.2.1.1, fun hn b o e => Nat.le_trans Om (q2 hn b o e)⟩, Vr, Vs, by omega⟩ Ls
  rintro L Vw ⟨hi, p0, p1, p2, p4, p5, pg, k0, k1, k2, Vx, Vt, rfl, Z, PX, KX, FI, _, WE, Vu⟩;have E := E.tr Z;refine au 14 ?_;refine al (aW rfl Tn.u rfl Kr (by assumption)) ?_;refine al (ar rfl (cells := L6 hi p0 p1 p2 (gl p).leaf.src p4 p5 pg an) Kr) ?_;refine aU ?_;intro Xa g13 (VF : ao _ _ _ (L6 an an an an 0 an an an an)) VD ex;have WG := ex;refine aU ?_;intro WH V9 cg
  have Wk := WG.aA cg VD; have X : GB Vw wr.heap.size g13 p0 p1 p2 (gl p).leaf.src p4 p5 pg hi an (NN p) ([]) WH := ⟨Wk, V9.congr rfl, ⟨FI.ext Wk, fun hn b o e => by have := Bs.RR (e ▸ FI.1) hn; omega⟩, Fx.nil _ _ _⟩
  refine au 7 ?_;refine al (cH (s := 2) (j := i) e1 rfl rfl Tn.u Kr rfl Om) ?_;refine au 1 ?_;refine al (af rfl Tn.u rfl (Vv _ (E.tr X.e) 1 _ rfl)) ?_;refine au 3 ?_;refine eD (fun L VN => ∃ (y : Hd), L = [(0, .slice A n c), (1, .int .i64 z), (7, .slice A7 i c7), (8, .slice A8 i c8), (9, .int .i64 (i : Int)), (11, .pointer (some ⟨Vt, 0, none⟩)), (13, .pointer (some ⟨g13, 0, none⟩))] ∧ (GB Vw wr.heap.size g13 p0 p1 p2 (gl p).leaf.src p4 p5 pg hi y (NN p) (rG p) VN)) ?_ ?_
  ·skip;refine ak rfl (fun WI => ?_) (fun WI => ?_)
   ·refine au 3 ?_;refine al (cH (s := 2) (j := i) e1 rfl rfl Tn.u Kr rfl Om) ?_;refine au 1 ?_;refine al (af rfl Tn.u rfl (Vv _ (E.tr X.e) 1 _ rfl)) ?_;refine aU ?_;have Xb := X.b.lt; have WO := Z.size;refine aC func28 rfl (mB p.2 Om _) ?_;rintro e _ ⟨Wl, rfl, WS, _, ex⟩;replace X := X.ext ex;refine au 2 ?_;refine ag (aq (i := 8) rfl rfl rfl Kr X.b Nb) rfl ?_;rintro _ _ ⟨rfl, VF, cg⟩;have X := X.put (hi' := hi) (y' := ⟨some ⟨Wl, 0, none⟩, 32, 32⟩) (way' := rG p) cg VD (VF.congr rfl) (X.fi.aA cg) (by unfold rG; rw [if_pos Om]; exact (Fx.new WS Om Om).aA cg);refine aU ?_;exact bd _ ⟨⟨some ⟨Wl, 0, none⟩, 32, 32⟩, rfl, X⟩ Ls
   refine aU ?_;exact bd _ ⟨an, rfl, (show rG p = [] from if_neg Om) ▸ X⟩ Ls
  rintro L VN ⟨y, rfl, X⟩;refine au 3 ?_;refine eD (fun L VO => ∃ (qq : Bool), L = [(0, .slice A n c), (1, .int .i64 z), (7, .slice A7 i c7), (8, .slice A8 i c8), (9, .int .i64 (i : Int)), (11, .pointer (some ⟨Vt, 0, none⟩)), (13, .pointer (some ⟨g13, 0, none⟩)), (68, .bool qq)] ∧ (qq = decide ((i : Int) = z ∧ p.2 = 9) ∧ GB Vw wr.heap.size g13 p0 p1 p2 (gl p).leaf.src p4 p5 pg hi y (NN p) (rG p) VO)) ?_ ?_
  ·refine au 3 ?_;refine bf (cO rfl rfl) rfl (fun u0 => ?_) (fun u0 => ?_)
   ·refine au 3 ?_;refine pt 61 (cH (s := 2) (j := i) e1 rfl rfl Tn.u Kr rfl Om) ?_;refine au 1 ?_;refine pt 61 (af rfl Tn.u rfl (Vv _ (E.tr X.e) 1 _ rfl)) ?_;refine aG 61 rfl rfl (cO rfl rfl) rfl (fun u1 => ?_) (fun u1 => ?_)
    ·refine aU ?_;exact bd _ ⟨true, rfl, (decide_eq_true ⟨u0, by omega⟩).symm, X⟩ Ls
    refine aU ?_;exact bd _ ⟨false, rfl, (decide_eq_false (fun h => by have := h.2; omega)).symm, X⟩ Ls
   refine aU ?_;exact bd _ ⟨false, rfl, (decide_eq_false (fun h => u0 h.1)).symm, X⟩ Ls
  rintro L VO ⟨qq, rfl, Wm, X⟩;refine au 1 ?_;refine eD (fun L VP => ∃ (y : Hd), L = [(0, .slice A n c), (1, .int .i64 z), (7, .slice A7 i c7), (8, .slice A8 i c8), (9, .int .i64 (i : Int)), (11, .pointer (some ⟨Vt, 0, none⟩)), (13, .pointer (some ⟨g13, 0, none⟩))] ∧ (GB Vw wr.heap.size g13 p0 p1 p2 (gl p).leaf.src p4 p5 pg hi y (NN p) (Gw z i p) VP)) ?_ ?_
  ·skip;refine bB rfl (fun VQ => ?_) (fun VQ => ?_)
   ·refine aU ?_;have Xc := X.b.lt; have WT := Z.size;refine ag (aF (z := .int .u8 0) Tn.u Kr rfl rfl rfl rfl rfl) rfl ?_;rintro _ _ ⟨Wn, rfl, WU, _, ex⟩;replace X := X.ext ex;have WV := bh (xs := [1]) (WU.congr rfl) rfl;refine au 1 ?_;refine ag (aq (i := 8) rfl rfl rfl Kr X.b Nb) rfl ?_;rintro _ _ ⟨rfl, VF, cg⟩;rw [Wm] at VQ; have X := X.put (hi' := hi) (y' := ⟨some ⟨Wn, 0, none⟩, 1, 1⟩) (way' := Gw z i p) cg VD (VF.congr rfl) (X.fi.aA cg) (by unfold Gw; rw [if_pos (of_decide_eq_true VQ)]; exact (Fx.new WV Om Om).aA cg);refine aU ?_;exact bd _ ⟨⟨some ⟨Wn, 0, none⟩, 1, 1⟩, rfl, X⟩ Ls
   refine aU ?_;exact bd _ ⟨y, rfl, (show Gw z i p = rG p from if_neg (by rw [Wm] at VQ; exact of_decide_eq_false VQ)) ▸ X⟩ Ls
  rintro L VP ⟨y, rfl, X⟩;refine au 3 ?_;refine eD (fun L VR => ∃ (qq : Bool), L = [(0, .slice A n c), (1, .int .i64 z), (7, .slice A7 i c7), (8, .slice A8 i c8), (9, .int .i64 (i : Int)), (11, .pointer (some ⟨Vt, 0, none⟩)), (13, .pointer (some ⟨g13, 0, none⟩)), (81, .bool qq)] ∧ (qq = decide ((i : Int) = z ∧ p.2 = 8) ∧ GB Vw wr.heap.size g13 p0 p1 p2 (gl p).leaf.src p4 p5 pg hi y (NN p) (Gw z i p) VR)) ?_ ?_
  ·refine au 3 ?_;refine bf (cO rfl rfl) rfl (fun u2 => ?_) (fun u2 => ?_)
   ·refine au 3 ?_;refine pt 74 (cH (s := 2) (j := i) e1 rfl rfl Tn.u Kr rfl Om) ?_;refine au 1 ?_;refine pt 74 (af rfl Tn.u rfl (Vv _ (E.tr X.e) 1 _ rfl)) ?_;refine aG 74 rfl rfl (cO rfl rfl) rfl (fun u3 => ?_) (fun u3 => ?_)
    ·refine aU ?_;exact bd _ ⟨true, rfl, (decide_eq_true ⟨u2, by omega⟩).symm, X⟩ Ls
    refine aU ?_;exact bd _ ⟨false, rfl, (decide_eq_false (fun h => by have := h.2; omega)).symm, X⟩ Ls
   refine aU ?_;exact bd _ ⟨false, rfl, (decide_eq_false (fun h => u2 h.1)).symm, X⟩ Ls
  rintro L VR ⟨qq, rfl, Wo, X⟩;refine au 1 ?_;refine eD (fun L VS => ∃ (h5 : Hd), L = [(0, .slice A n c), (1, .int .i64 z), (7, .slice A7 i c7), (8, .slice A8 i c8), (9, .int .i64 (i : Int)), (11, .pointer (some ⟨Vt, 0, none⟩)), (13, .pointer (some ⟨g13, 0, none⟩))] ∧ (GB Vw wr.heap.size g13 p0 p1 p2 (gl p).leaf.src p4 p5 pg h5 y (MZ z i p) (Gw z i p) VS)) ?_ ?_
  ·skip;refine bB rfl (fun VT => ?_) (fun VT => ?_)
   ·refine au 3 ?_;refine ag (aq (i := 0) rfl rfl rfl Kr X.b Nb) rfl ?_;rintro _ _ ⟨rfl, VF, cg⟩;rw [Wo] at VT; have X := X.put (hi' := an) (y' := y) (ini' := MZ z i p) cg VD (VF.congr rfl) (by unfold MZ; rw [if_pos (of_decide_eq_true VT)]; exact Fx.nil _ _ _) (X.fy.aA cg);refine aU ?_;exact bd _ ⟨an, rfl, X⟩ Ls
   refine aU ?_;exact bd _ ⟨hi, rfl, (show MZ z i p = NN p from if_neg (by rw [Wo] at VT; exact of_decide_eq_false VT)) ▸ X⟩ Ls
  rintro L VS ⟨h5, rfl, X⟩;refine au 3 ?_;refine eD (fun L VU => ∃ (qq : Bool), L = [(0, .slice A n c), (1, .int .i64 z), (7, .slice A7 i c7), (8, .slice A8 i c8), (9, .int .i64 (i : Int)), (11, .pointer (some ⟨Vt, 0, none⟩)), (13, .pointer (some ⟨g13, 0, none⟩)), (94, .bool qq)] ∧ (qq = decide ((i : Int) = z ∧ p.2 = 7) ∧ GB Vw wr.heap.size g13 p0 p1 p2 (gl p).leaf.src p4 p5 pg h5 y (MZ z i p) (Gw z i p) VU)) ?_ ?_
  ·refine au 3 ?_;refine bf (cO rfl rfl) rfl (fun u4 => ?_) (fun u4 => ?_)
   ·refine au 3 ?_;refine pt 87 (cH (s := 2) (j := i) e1 rfl rfl Tn.u Kr rfl Om) ?_;refine au 1 ?_;refine pt 87 (af rfl Tn.u rfl (Vv _ (E.tr X.e) 1 _ rfl)) ?_;refine aG 87 rfl rfl (cO rfl rfl) rfl (fun u5 => ?_) (fun u5 => ?_)
    ·refine aU ?_;exact bd _ ⟨true, rfl, (decide_eq_true ⟨u4, by omega⟩).symm, X⟩ Ls
    refine aU ?_;exact bd _ ⟨false, rfl, (decide_eq_false (fun h => by have := h.2; omega)).symm, X⟩ Ls
   refine aU ?_;exact bd _ ⟨false, rfl, (decide_eq_false (fun h => u4 h.1)).symm, X⟩ Ls
  rintro L VU ⟨qq, rfl, Wq, X⟩;refine au 1 ?_;refine eD (fun L VV => ∃ (h6 : Hd), L = [(0, .slice A n c), (1, .int .i64 z), (7, .slice A7 i c7), (8, .slice A8 i c8), (9, .int .i64 (i : Int)), (11, .pointer (some ⟨Vt, 0, none⟩)), (13, .pointer (some ⟨g13, 0, none⟩))] ∧ (GB Vw wr.heap.size g13 p0 p1 p2 (gl p).leaf.src p4 p5 pg h6 y (Pb z i p) (Gw z i p) VV)) ?_ ?_
  ·skip;refine bB rfl (fun VW => ?_) (fun VW => ?_)
   ·refine aU ?_;have Xd := X.b.lt; have WW := Z.size;refine ag (dD (n := 32) (z := .int .u8 0) (bytes := 1) rfl rfl Tn.u Kr rfl rfl rfl rfl Om Om) rfl ?_;rintro _ _ ⟨Wa, rfl, WX, _, ex⟩;replace X := X.ext ex;have WY : Bs _ (some ⟨Wa, 0, none⟩) 32 (List.replicate 32 0) := bh (WX.congr Kr) (by simp);refine au 2 ?_;refine ag (aq (i := 0) rfl rfl rfl Kr X.b Nb) rfl ?_;rintro _ _ ⟨rfl, VF, cg⟩;rw [Wq] at VW; have X := X.put (hi' := ⟨some ⟨Wa, 0, none⟩, 32, 32⟩) (y' := y) (ini' := Pb z i p) cg VD (VF.congr rfl) (by unfold Pb; rw [if_pos (of_decide_eq_true VW)]; exact (Fx.new WY Om Om).aA cg) (X.fy.aA cg);refine aU ?_;exact bd _ ⟨⟨some ⟨Wa, 0, none⟩, 32, 32⟩, rfl, X⟩ Ls
   refine aU ?_;exact bd _ ⟨h5, rfl, (show Pb z i p = MZ z i p from if_neg (by rw [Wq] at VW; exact of_decide_eq_false VW)) ▸ X⟩ Ls
  rintro L VV ⟨h6, rfl, X⟩;refine au 4 ?_;refine al (aW rfl Tn.u rfl Kr X.b) ?_;refine ag (rF (cells := L6 h6 p0 p1 p2 (gl p).leaf.src p4 p5 pg y) Tn.u rfl Kr) rfl ?_;rintro _ Wb ⟨_, rfl, Wc, _, ex⟩;replace X := X.ext ex;have EE := Z.tr X.e; have ze := EE.size; have Y7 := X7.ext Cq.imp' EE; have Y8 := X8.ext iE.imp EE; have zE := E.size; have zX := X.e.size;have o7 := fun g hg => X7.2.1.mU (m := i) g hg;have o8 := fun g hg => X8.2.1.mU (m := i) g hg
  have hlt : ∀ g ∈ (Value.slice A7 i c7).ownBlock.toList ++ (Value.slice A8 i c8).ownBlock.toList, g < wr.heap.size := fun g hg => by
   rcases List.mem_append.1 hg with h | h
   ·exact (o7 g h).2
   exact (o8 g h).2
  have hx : Cq (Bx ((Value.slice A7 i c7).ownBlock.toList ++ ((Value.slice A8 i c8).ownBlock.toList ++ [])) Wb) (L6 h6 p0 p1 p2 (gl p).leaf.src p4 p5 pg y) (SR z i p) := by rw [List.append_nil];obtain ⟨t0, _, t1, t2, t3, t4, t5, t6⟩ := (PX.imp fun _ _ b => b.ext X.e).inj;exact ⟨h6, p0, p1, p2, p4, p5, pg, y, rfl, t0, Bx.of X.fi.1 hlt, t1, t2, t3, t4, t5, t6, Bx.of X.fy.1 hlt⟩
  refine ag (xc (A := A7) (n := i) (c := c7) rfl rfl PD Y7.2.1 Wc rfl (aO rfl) Om Om Om) rfl ?_;rintro _ VX ⟨B7, d7, rfl, R7, VY, VE⟩;have V7 := Y7.app Cq.imp' hx rfl R7 VY VE; have V8 := Y8.other iE.imp VY VE (fun g h1 h2 => hd g h2 h1); have C7 := aE.IF VY;have WZ : iE (Bx ((Value.slice A8 i c8).ownBlock.toList ++ ((Value.slice B7 (i + 1) d7).ownBlock.toList ++ [])) VX) (fx k0 k1 k2) (keyOf p) := iE.imp _ _ _ _ KX fun _ _ b => ((b.ext X.e).grown VY VE).re fun g hg => .inl (by simp only [List.mem_append, List.append_nil] at hg ⊢; exact hg.symm);have We : Ext w VX := Below.grown (E.tr X.e) VY Om (fun k e => by have := (o7 k (by rw [e]; simp)).1; omega);have Xe := (WE.ext X.e).bk C7 (fun hm => by have := (o7 _ hm).2; omega)
  have Wr : ∀ g ∈ (Value.slice B7 (i + 1) d7).ownBlock.toList, g ∉ (Value.slice A8 i c8).ownBlock.toList := fun g h1 h2 => by
   rcases VE with h | h
   ·exact hd g (by rw [← h]; exact h1) h2
   rw [h] at h1; have := (o8 g h2).2; simp at h1; omega
  refine aU ?_;refine ag (rF (cells := fx k0 k1 k2) Tn.u rfl Kr) rfl ?_;rintro _ _ ⟨_, rfl, Wf, _, ex⟩;have U7 := V7.ext Cq.imp' ex; have U8 := V8.ext iE.imp ex; have W0 := iE.imp _ _ _ _ WZ fun _ _ b => b.ext ex; have VZ := We.tr ex; have W3 := ex.size; have u7 := fun g hg => V7.2.1.mU (m := i + 1) g hg;have zz := VZ.size;refine ag (xc (A := A8) (n := i) (c := c8) rfl rfl Mi U8.2.1 Wf rfl (aO rfl) Om Om Om) rfl ?_;rintro _ Wg ⟨B8, d8, rfl, R8, Wh, VJ⟩;have W8 := U8.app iE.imp W0 rfl R8 Wh VJ; have W7 := U7.other Cq.imp' Wh VJ Wr;have Wi : Ext w Wg := Below.grown VZ Wh Om (fun k e => by have := (o8 k (by rw [e]; simp)).1; omega)
  have W4 : ∀ g ∈ (Value.slice B7 (i + 1) d7).ownBlock.toList, g ∉ (Value.slice B8 (i + 1) d8).ownBlock.toList := fun g h1 h2 => by
   rcases VJ with h | h
   ·exact Wr g h1 (by rw [← h]; exact h2)
   rw [h] at h2; have := (u7 g h1).2; simp at h2; omega
  have e7 : jY z ps (i + 1) = jY z ps i ++ [SR z i p] := by unfold jY; rw [List.range_succ, List.map_append, List.map_singleton, hgd]
  have e8 : nR ps (i + 1) = nR ps i ++ [keyOf p] := by unfold nR; rw [List.range_succ, List.map_append, List.map_singleton, hgd]
  rw [← e7] at W7;rw [← e8] at W8;refine au 9 ?_;refine ae ?_;refine Ws _ _ ⟨i + 1, B7, d7, B8, d8, _, _, rfl, rfl, by omega, Wi, W7, W8, W4⟩ Om Ls
 refine aU ?_;refine hret rfl rfl rfl ?_;obtain rfl : i = n := by omega
 exact ⟨A7, c7, A8, c8, rfl, X7.RO Cq.imp', X8.RO iE.imp, (fun b o h => h.elim (fun e => (X7.2.1.mU (m := i) b (by rw [e]; simp [Value.ownBlock])).1) fun e => (X8.2.1.mU (m := i) b (by rw [e]; simp [Value.ownBlock])).1), E⟩
end
section
open Go.ChangeShapes Go.WideShapes Go.ChangeAt Go.RowKit
variable {H : Type} {enc : TypeId × Value → H} {W : World} {spare : Nat → Bool} {held : Bool}
theorem AZ {cs : List Value} {x : DataW H × List MemPlace} (h : DataW.trod enc Tryz.prog W base spare held fuel 77 cs = some x) : ∃ p, yw W cs.toArray p := by
 obtain ⟨Vq, hl, hfs⟩ := trod_struct Tryz.underlying77 h;have hc : Tryz.prog.cellsOf 77 = 2 := by kernel_rfl
 rw [hc] at hl;have c0 : Tryz.prog.cellsOf 5 = 1 := by kernel_rfl
 obtain ⟨_, t0⟩ := hfs 0 _ rfl;obtain ⟨_, t1⟩ := hfs 1 _ rfl;obtain ⟨k0, e0, m0⟩ := DM t0;obtain ⟨k1, e1, m1⟩ := DM t1;have e : cs.drop 0 = _ := rW (o := 0) c0 e0;rw [rW (o := 1) c0 e1, Kg hl] at e;exact ⟨(k0, k1), congrArg List.toArray e, m0, m1⟩
theorem GP {d : DataW H} {p : List MemPlace} (h : DataW.Trod enc Tryz.prog W base spare held 56 (.slice A n c) d p) : ∃ ps, rl yw 2 W A n ps := by
 obtain ⟨fuel, hf⟩ := h;obtain ⟨a, n', c', xs, e, b, _⟩ := GQ (R := yw) (sz := 2) Tryz.underlying56 Kr (fun _ _ _ h => AZ h) hf;have e' : [Value.slice A n c] = [.slice a n' c'] := e;injection e' with e' _
 injection e' with e1 e2 _
 subst e1; subst e2;exact ⟨xs, b⟩
end
section
namespace Nt
theorem yJ : ll 1224481 := gR (k := 1110) (by omega) (by omega) (by decide +kernel)
theorem Cn : ll 531581 := gR (k := 730) (by omega) (by omega) (by decide +kernel)
theorem Pg : ll 1257559732178653 :=
 iM (F := 1224481 * 531581) (by omega) (by omega) fun _ hr hd => pe (by decide +kernel) (iD (m := 1027014492) yJ 60 2 (by decide +kernel) hr hd) (iD (m := 2365697292) Cn 60 2 (by decide +kernel) hr hd)
theorem PL : ll 4434155615661930479 :=
 iM (F := 1257559732178653) (by omega) (by omega) fun _ hr hd => iD (m := 3526) Pg 64 2 (by decide +kernel) hr hd
theorem QF : ll 172054593956031949258510691 :=
 iM (F := 4434155615661930479) (by omega) (by omega) fun _ hr hd => iD (m := 38802110) PL 90 2 (by decide +kernel) hr hd
theorem Pj : ll 19757330305831588566944191468367130476339 :=
 iM (F := 172054593956031949258510691) (by omega) (by omega) fun _ hr hd => iD (m := 114831751082918) QF 140 2 (by decide +kernel) hr hd
theorem QR : ll 276602624281642239937218680557139826668747 :=
 iM (F := 19757330305831588566944191468367130476339) (by omega) (by omega) fun _ hr hd => iD (m := 14) Pj 140 2 (by decide +kernel) hr hd
theorem KW : ll 7237005577332262213973186563042994240857116359379907606001950938285454250989 :=
 iM (F := 276602624281642239937218680557139826668747) (by omega) (by omega) fun _ hr hd => iD (m := 26163907866482859529727157400808004) QR 256 2 (by decide +kernel) hr hd
end Nt
namespace Ed
open Fp Nt
theorem mul_gcd (x y : Nat) : mul x B = O → mul y B = O → mul (Nat.gcd x y) B = O := by
  induction x, y using Nat.gcd.induction with
  | H0 y => intro _ h; rwa [Nat.gcd_zero_left]
  | H1 x y hx ih =>
    intro h1 h2
    rw [Nat.gcd_rec]
    refine ih ?_ h1
    have e : y = x * (y / x) + y % x := (Nat.div_add_mod y x).symm
    rw [e, mul_add tQ, rH tQ, h1, Ot, xN] at h2
    exact h2
theorem EF (h : mul n B = O) : L ∣ n := by
 have hg := mul_gcd n L h AW;rcases KW.2 (Nat.gcd n L) (Nat.gcd_dvd_right n L) with h1 | h1
 ·rw [h1, mul_one] at hg;exact absurd hg (by decide +kernel)
 have := Nat.gcd_dvd_left n L;rw [h1] at this; exact this
theorem Oh {Q : F × F} (hQ : On Q) (Vq : uu Q = 0) : mul 2 Q = O := by
 have h2 : Q.2 * Q.2 = 1 := by
  unfold uu at Vq;rcases zero_or Vq with h | h
  ·have : Q.2 = -1 := by generalize Q.2 = y at *; clear Vq; grind
   rw [this]; decide +kernel
  have h3 : 1 - Q.2 = 0 := Classical.byContradiction fun hc => Iv hc h;have : Q.2 = 1 := by generalize Q.2 = y at *; clear Vq h; grind
  rw [this]; decide +kernel
 have hx := Lh hQ h2;show add (add O Q) Q = O;rw [xN]
 have : Q = neg Q := by
  obtain ⟨x, y⟩ := Q;unfold neg
  simp only at *
  subst hx;refine Prod.ext ?_ rfl;show (0 : F) = -0;decide +kernel
 rw [show add Q Q = add Q (neg Q) from by rw [← this], add_neg hQ]
theorem Ko : ∀ (l : Lb) (k : Nat), 256 ^ k * (l.getD k 0).toNat ≤ num l
  | [], k => by simp
  | x :: l, 0 => by show 256 ^ 0 * x.toNat ≤ x.toNat + 256 * num l;omega
  | x :: l, k + 1 => by have h := Ko l k;show 256 ^ (k + 1) * (l.getD k 0).toNat ≤ x.toNat + 256 * num l;rw [Nat.pow_succ, Nat.mul_comm (256 ^ k) 256, Nat.mul_assoc];omega
theorem zr (xs : Lb) : 28948022309329048855892746252171976963317496166410141009864396001978282409984 ≤ num (cU xs) := by have h := Ko (cU xs) 31;rw [tD] at h;omega
theorem qU (xs : Lb) : num (cU xs) % 8 = 0 := by have h1 := uE (cU xs);rw [qH] at h1;omega
theorem KY {K : Nat} (h1 : K < 57896044618658097711785492504343953926634992332820282019728792003956564819968) (h2 : 28948022309329048855892746252171976963317496166410141009864396001978282409984 ≤ K) (h3 : K % 8 = 0) :
  ¬ 7237005577332262213973186563042994240857116359379907606001950938285454250989 ∣ K := by
 rintro ⟨k, rfl⟩;have hk : k < 8 := Nat.lt_of_mul_lt_mul_left (Nat.lt_trans h1 (show (57896044618658097711785492504343953926634992332820282019728792003956564819968 : Nat) < 7237005577332262213973186563042994240857116359379907606001950938285454250989 * 8 from Nat.le_of_ble_eq_true rfl));have hall : ∀ k : Fin 8, (7237005577332262213973186563042994240857116359379907606001950938285454250989 * k.val) % 8 = 0 → k.val = 0 := by decide +kernel
 have h0 := hall ⟨k, hk⟩ h3;have Vq : k = 0 := h0;subst Vq;exact absurd h2 (Nat.not_le_of_lt Nb)
theorem AQ : ¬ 7237005577332262213973186563042994240857116359379907606001950938285454250989 ∣ 2 := by decide +kernel
theorem ME (hM : M < 57896044618658097711785492504343953926634992332820282019728792003956564819968) (hN : N < 57896044618658097711785492504343953926634992332820282019728792003956564819968)
  (gM : 28948022309329048855892746252171976963317496166410141009864396001978282409984 ≤ M) (gN : 28948022309329048855892746252171976963317496166410141009864396001978282409984 ≤ N) (eM : M % 8 = 0) (eN : N % 8 = 0) :
  ¬ 7237005577332262213973186563042994240857116359379907606001950938285454250989 ∣ N * M * 2 := fun hd => by
 rcases KW.dvd_mul hd with h3 | h3
 ·rcases KW.dvd_mul h3 with h4 | h4
  ·exact KY hN gN eN h4
  exact KY hM gM eM h4
 exact AQ h3
theorem Ii {K : Nat} (h : ¬ 7237005577332262213973186563042994240857116359379907606001950938285454250989 ∣ K * 2) : uu (mul K B) ≠ 0 := fun h0 => by have h2 := Oh (mb tQ K) h0;rw [← rH tQ] at h2;exact h (EF h2)
theorem Fg (xs ys : Lb) : gJ (num (cU xs)) (gJ (num (cU ys)) (of 9)) ≠ 0 := by
 have hp : (2 : Nat) ^ 255 = 57896044618658097711785492504343953926634992332820282019728792003956564819968 := by decide +kernel
 have hM := yf xs;have hN := yf ys;have gM := zr xs;have gN := zr ys;have eM := qU xs;have eN := qU ys;have fM := te xs;have fN := te ys
 generalize num (cU xs) = M at *
 generalize num (cU ys) = N at *
 rw [← T0, xy tQ N hN fN, xy (mb tQ N) M hM fM, ← rH tQ];rw [hp] at hM hN;exact Ii (ME hM hN gM gN eM eN)
end Ed
end
section
open Go.RowKit
attribute [local irreducible] Y Ef WL WC WK WQ WM cv WN WF cZ WJ gI WR qK
open Ae Gm Hk
theorem Ai : ∀ l : List UInt8, (∀ x ∈ l, x = 0) → Fp.num l = 0
  | [], _ => rfl
  | x :: l, h => by have h1 := h x (List.mem_cons_self ..);have h2 := Ai l (fun y hy => h y (List.mem_cons_of_mem _ hy));show x.toNat + 256 * Fp.num l = 0;rw [h1, h2]; rfl
theorem QZ {v : Nat} (hv : v < 256 ^ 32) (h : v ≠ 0) : (Fp.le 32 v).any (fun x => decide (x ≠ 0)) = true := by refine Classical.byContradiction fun hc => h ?_;rw [← Fp.sE 32 v hv];refine Ai _ fun x hx => Classical.byContradiction fun Vq => hc ?_;exact List.any_eq_true.2 ⟨x, hx, decide_eq_true Vq⟩
theorem Ci (u : Fp.F) : u.val < 256 ^ 32 := Nat.lt_trans u.isLt (by unfold Fp.p; decide +kernel)
theorem Qj {u : Fp.F} (h : u ≠ 0) : u.val ≠ 0 := fun h0 => h (Fin.ext (by rw [h0]; rfl))
theorem PY (xs : Lb) : mS xs = Fp.le 32 (gJ (Fp.num (cU (lv xs))) (Fp.of 9)).val := by unfold mS; rw [JK, Kn (dO xs)]
def both (xs ys : Lb) : List UInt8 := Fp.le 32 (gJ (Fp.num (cU (lv ys))) (gJ (Fp.num (cU (lv xs))) (Fp.of 9))).val
theorem Re {xs : Lb} {u : Fp.F} (hx : xs.length = 32) (hne : gJ (Fp.num (cU xs)) u ≠ 0) : vE xs (Fp.le 32 u.val) = (Fp.le 32 (gJ (Fp.num (cU xs)) u).val, 0) := by have h1 := Kn (u := u) hx;have h2 := QZ (Ci _) (Qj hne);unfold vE;rw [h1];simp only;rw [if_neg (by simp), if_pos h2]
theorem IX (xs ys : Lb) : vE (lv ys) (mS xs) = (both xs ys, 0) := by rw [PY]; exact Re (dO ys) (Ed.Fg _ _)
def Oc (xs ys : Lb) : List UInt8 := Tf (both xs ys) (mS ys) (mS xs)
theorem KQ (xs ys : Lb) : uf (mS xs) ys = (Oc xs ys, mS ys, 0) := by unfold uf Oc;rw [IX, if_neg (by simp)]
theorem MO (xs ys is ts ms : Lb) : sl (mS xs) ys is ts ms = (mS ys, nh (Er (Oc xs ys) is) (EB (Oc xs ys) is) ts ms, 0) := by unfold sl; rw [KQ, if_neg (by simp)]
end
section
open Go.RowKit
attribute [local irreducible] Y Ef WL WC WK WQ WM cv WN WF cZ WJ gI WR qK
open Wire Nd Hk
structure xg (g j : Nat) (y : UInt8) (w w' : World) : Prop where
 now : w'.cell? ⟨g, j, none⟩ = some (bv y)
 was : ∃ x, w.cell? ⟨g, j, none⟩ = some (bv x)
 RO : ∀ b i v, w.cell? ⟨b, i, none⟩ = some v → ¬ (b = g ∧ i = j) → w'.cell? ⟨b, i, none⟩ = some v
section
variable {j : Nat}
theorem xg.of {x : UInt8} (B : ao w g t cur) (hx : w.cell? ⟨g, j, none⟩ = some (bv x)) (D : ao w' g t (cur.setIfInBounds j (bv y))) (cg : lF w g w') : xg g j y w w' := by
 rw [B.cell] at hx;have hj := (Array.getElem?_eq_some_iff.1 hx).1;refine ⟨by rw [D.cell, Array.getElem?_setIfInBounds, if_pos rfl, if_pos hj], ⟨x, by rw [B.cell]; exact hx⟩, fun b i v hv hne => ?_⟩;by_cases hb : b = g
 ·subst hb;rw [B.cell] at hv;rw [D.cell, Array.getElem?_setIfInBounds, if_neg (fun e => hne ⟨rfl, e.symm⟩)]; exact hv
 exact (World.cell?_of_block (w := w) (cg.block b (dX hv) (fun e => by grind))).trans hv
theorem Bs.flip {xs : Lb} (h : Bs w A n xs) (k : xg g j y w w') : ∃ Vq, Bs w' A n Vq := by
 rcases h.2 with h0 | ⟨b, o, rfl, hc⟩
 ·exact ⟨xs, h.1, .inl h0⟩
 by_cases hb : b = g ∧ o ≤ j
 ·obtain ⟨rfl, ho⟩ := hb;refine ⟨xs.set (j - o) y, by rw [List.length_set]; exact h.1, .inr ⟨b, o, rfl, fun i v hv => ?_⟩⟩;rw [List.map_set, List.getElem?_set] at hv;split at hv
  ·split at hv
   ·injection hv with hv; subst hv
    rw [show o + i = j by omega]; exact k.now
   cases hv
  exact k.RO _ _ _ (hc i v hv) (fun e => by omega)
 exact ⟨xs, h.1, .inr ⟨b, o, rfl, fun i v hv => k.RO _ _ _ (hc i v hv) (fun e => hb ⟨e.1, by omega⟩)⟩⟩
theorem At.flip (h : At w A vs) (k : xg g j y w w') (hv : ∀ v ∈ vs, ∃ A n c, v = Value.slice A n c) : At w' A vs := by
 rcases h with h0 | ⟨b, o, rfl, hc⟩
 ·exact .inl h0
 refine .inr ⟨b, o, rfl, fun i v hi => k.RO _ _ _ (hc i v hi) fun e => ?_⟩;obtain ⟨x, hx⟩ := k.was;rw [← e.1, ← e.2, hc i v hi] at hx;obtain ⟨A, n, c, rfl⟩ := hv v (List.mem_of_getElem? hi);injection hx with hx; cases hx
end
theorem qJ {α : Type} {P : Nat → α → Prop} : ∀ n : Nat, (∀ i, i < n → ∃ x, P i x) → ∃ xs : List α, xs.length = n ∧ ∀ i x, xs[i]? = some x → P i x
  | 0, _ => ⟨[], rfl, fun i x h => by simp at h⟩
  | n + 1, h => by
    obtain ⟨xs, hl, hx⟩ := qJ n fun i hi => h i Om;obtain ⟨x, hp⟩ := h n Om;refine ⟨xs ++ [x], by simp [hl], fun i z hz => ?_⟩;rcases Nat.lt_or_ge i n with hi | hi
    · rw [List.getElem?_append_left Om] at hz; exact hx i z hz
    have hb := (List.getElem?_eq_some_iff.1 hz).1;simp only [List.length_append, List.length_singleton] at hb;obtain rfl : i = n := by omega
    rw [List.getElem?_append_right Om, hl, Nat.sub_self] at hz;injection hz with hz; exact hz ▸ hp
theorem Rn {xs : List lB} (hl : xs.length = n) (h2 : vs.length = n * 3) (h4 : ∀ i x, xs[i]? = some x → mh w ((vs.drop (i * 3)).take 3).toArray x) : ∀ u ∈ vs, ∃ A n c, u = Value.slice A n c := fun u hu => by
 obtain ⟨j, hj, rfl⟩ := List.getElem_of_mem hu;have hi : j / 3 < xs.length := by omega
 obtain ⟨⟨a, b, c, e, _⟩, _⟩ := h4 (j / 3) _ (List.getElem?_eq_getElem hi);have e' : (vs.drop (j / 3 * 3)).take 3 = [.slice a.A a.n a.c, .slice b.A b.n b.c, .slice c.A c.n c.c] := congrArg Array.toList e
 have hm : vs[j] ∈ (vs.drop (j / 3 * 3)).take 3 := by refine List.mem_of_getElem? (i := j % 3) ?_;rw [List.getElem?_take_of_lt (Nat.mod_lt _ Om), List.getElem?_drop, show j / 3 * 3 + j % 3 = j by omega, List.getElem?_eq_getElem hj]
 grind
theorem ka.flip {j : Nat} (h : ka w cs x) (hs : x.Small) (k : xg g j y w w') : ∃ x', ka w' cs x' ∧ x'.Small := by
 obtain ⟨h0, h1, rfl, ⟨hl, vs, h2, h3, h4⟩, b, hc⟩ := h;obtain ⟨inf, hi⟩ := Bs.flip b k
 obtain ⟨xs, Vq, hx⟩ := qJ (P := fun i x' => mh w' ((vs.drop (i * 3)).take 3).toArray x' ∧ x'.Small) h0.n fun i hi => by
  have hil : i < x.guests.length := by omega
  obtain ⟨⟨a, b, c, e, b1, b2, b3⟩, hc⟩ := h4 i _ (List.getElem?_eq_getElem hil);obtain ⟨s1, s2, s3⟩ := hs.2.1 _ (List.getElem_mem hil);obtain ⟨r1, q1⟩ := Bs.flip b1 k;obtain ⟨r2, q2⟩ := Bs.flip b2 k;obtain ⟨r3, q3⟩ := Bs.flip b3 k;have l1 := b1.1; have l2 := b2.1; have l3 := b3.1; have m1 := q1.1; have m2 := q2.1; have m3 := q3.1;exact ⟨⟨r1, r2, r3⟩, ⟨⟨a, b, c, e, q1, q2, q3⟩, hc⟩, by show r1.length ≤ _; omega, by show r2.length ≤ _; omega, by show r3.length ≤ _; omega⟩
 obtain ⟨s1, s2, s3⟩ := hs;have l1 := b.1; have m1 := hi.1;refine ⟨⟨xs, inf⟩, ⟨h0, h1, rfl, ⟨Vq, vs, h2, h3.flip k (Rn hl h2 h4), fun i x hi => (hx i x hi).1⟩, hi, hc⟩, by show xs.length < _; omega, fun g hg => ?_, by show inf.length ≤ _; omega⟩;obtain ⟨i, hi⟩ := List.mem_iff_getElem?.1 hg;exact (hx i g hi).2
theorem BW.open {W : World} {xs : Lb} (H : BW base w h xs) (hn : 0 < h.n) (E : Ext w W) : ∃ b o t cur, h.A = some ⟨b, o, none⟩ ∧ base ≤ b ∧ b < w.heap.size ∧ ao W b t cur ∧ ∀ q, q < h.n → ∃ x, W.cell? ⟨b, o + q, none⟩ = some (bv x) ∧ o + q < cur.size := by
 obtain ⟨hb, hw⟩ := H;obtain ⟨b, o, hA, m, _⟩ := Bs.get (k := 0) hb hn;obtain ⟨h1, _, t, cur, B⟩ := hw b o h.n h.c (by rw [hA]) hn;refine ⟨b, o, t, cur, hA, h1, m, B.ext E, fun q hq => ?_⟩;obtain ⟨b', o', Vq, _, hc⟩ := Bs.get (k := q) (Bs.ext hb E) hq;rw [hA] at Vq;injection Vq with Vq
 injection Vq with e1 e2 _
 subst e1; subst e2;refine ⟨_, hc, ?_⟩;rw [(B.ext E).cell] at hc;grind
theorem vP (x : UInt8) (hk : k < 256) : ∃ y, Value.int .u8 ((x.toNat ^^^ k : Nat) : Int) = bv y := by have h : x.toNat ^^^ k < 2 ^ 8 := Nat.xor_lt_two_pow x.toNat_lt hk;exact ⟨UInt8.ofNat (x.toNat ^^^ k), by unfold bv; rw [UInt8.toNat_ofNat', Nat.mod_eq_of_lt h]⟩
/-! What the law makes never errs, and is small. -/
theorem Pv (p : Nat × Nat) (i : Nat) : SR (-1) i p = ⟨gl p, rG p⟩ := by
 have h : ∀ q, ¬ ((i : Int) = -1 ∧ q) := fun q h => by omega
 unfold SR Gw Pb MZ;rw [if_neg (h _), if_neg (h _), if_neg (h _)];rfl
theorem zk (j seed inf : Lb) (k : Nat) (p : Nat × Nat) : (jW j seed inf k ⟨gl p, rG p⟩).1.length = 32 ∧ (jW j seed inf k ⟨gl p, rG p⟩).2.1.length = (rv j (rG p)).length + 16 ∧ (jW j seed inf k ⟨gl p, rG p⟩).2.2 = 0 := by unfold jW;rw [show (⟨gl p, rG p⟩ : Gs).pk.init = mS (wv (zC p)) from rfl, MO];exact ⟨cX _, Gm.lR _ _ _ _, rfl⟩
theorem se (p : Nat × Nat) : (rG p).length = 0 ∨ (rG p).length = 32 := by unfold rG; split; exact .inr (kX _); exact .inl rfl
theorem Sv {l q a : Nat} (h : l = q + 16) (h1 : q ≤ a + b + 20) (ha : a = 32) (hb : b = 0 ∨ b = 32) : 0 < l ∧ l ≤ 200 := by omega
def Qt (v : Lb) (r : List UInt8 × List UInt8 × Nat) : lB := ⟨v, r.1, r.2.1⟩
theorem QW {v : Lb} {r : List UInt8 × List UInt8 × Nat} (h0 : v.length = 32) (h1 : r.1.length = 32) (h2 : 0 < r.2.1.length ∧ r.2.1.length ≤ 200) : (Qt v r).ref.length = 32 ∧ (Qt v r).enc.length = 32 ∧ 0 < (Qt v r).box.length ∧ (Qt v r).box.length ≤ 200 := ⟨h0, h1, h2⟩
theorem Qz (hj : j.length = 32) (seed inf : Lb) (k : Nat) (p : Nat × Nat) : Fc j seed inf k ⟨gl p, rG p⟩ = (Qt (ik (gl p)) (jW j seed inf k ⟨gl p, rG p⟩), 0) := by
 have h1 : dk (gl p) := vZ (ident := [UInt8.ofNat p.1]) (zC p) (by simp) (by simp)
 have h2 : qG j (rG p) := ⟨hj, se p⟩
 unfold Fc;rw [if_neg (fun h => h.elim (fun h => h h1) (fun h => h h2)), (zk j seed inf k p).2.2];rfl
theorem Iu (hj : j.length = 32) (seed inf : Lb) (k : Nat) (p : Nat × Nat) {g : lB} (e : g = Qt (ik (gl p)) (jW j seed inf k ⟨gl p, rG p⟩)) : g.ref.length = 32 ∧ g.enc.length = 32 ∧ 0 < g.box.length ∧ g.box.length ≤ 200 := by obtain ⟨h1, h2, _⟩ := zk j seed inf k p;rw [e];exact QW (oU _) h1 (Sv h2 (MV j (rG p)) hj (se p))
theorem yH {i : jq} {ps : List (Nat × Nat)} (hj : (ts.getD 0 []).length = 32) (hi : gL i) (hn : n ≤ 60) (hl : ps.length = n) :
  (iu ts i (jY (-1) ps n) seed).2 = 0 ∧ (iu ts i (jY (-1) ps n) seed).1.Small ∧ (iu ts i (jY (-1) ps n) seed).1.guests.length = n ∧ 0 < (iu ts i (jY (-1) ps n) seed).1.info.length ∧ ∀ g ∈ (iu ts i (jY (-1) ps n) seed).1.guests, g.ref.length = 32 ∧ g.enc.length = 32 ∧ 0 < g.box.length := by
 have hgl : (jY (-1) ps n).length = n := by unfold jY; simp
 have hget : ∀ k, k < n → (jY (-1) ps n).getD k ⟨Pack.zero, []⟩ = ⟨gl (ps.getD k (0, 0)), rG (ps.getD k (0, 0))⟩ := fun k hk => by unfold jY; rw [List.getD_eq_getElem?_getD, List.getElem?_map, List.getElem?_range hk]; exact Pv _ _
 unfold iu;rw [if_neg (fun h => h hi), if_neg Om]
 obtain ⟨V, hV⟩ : ∃ V, V = Gm.nh (Kdf.label (ts.getD 1 []) sn.data.toList [] 16) (Kdf.label (ts.getD 1 []) jl.data.toList [] 12) (BA i) [] := ⟨_, rfl⟩
 rw [← hV];have hVl : V.length = (BA i).length + 16 := by rw [hV]; exact Gm.lR _ _ _ _
 have hat : ∀ k, k < n → sO (ts.getD 0 []) seed V (jY (-1) ps n) k = (Qt (ik (gl (ps.getD k (0, 0)))) (jW (ts.getD 0 []) seed V k ⟨gl (ps.getD k (0, 0)), rG (ps.getD k (0, 0))⟩), 0) := fun k hk => by unfold sO; rw [hget k hk]; exact Qz hj _ _ _ _
 rw [Ic (fun k hk => by rw [hat k Om])]
 have hB : (BA i).length ≤ 400 := by obtain ⟨h1, h2, h3, h4, _, h6⟩ := hi;have g1 := bE i.ctx.grp.length; have g2 := bE i.ctx.tree.length; have g3 := bE i.ctx.trans.length; have g4 := bE i.tag.length; have g5 := bE i.sig.length;unfold BA zo dw; simp [iV, iK]; omega
 have hg : ∀ g ∈ (List.range (jY (-1) ps n).length).map (fun k => (sO (ts.getD 0 []) seed V (jY (-1) ps n) k).1), g.ref.length = 32 ∧ g.enc.length = 32 ∧ 0 < g.box.length ∧ g.box.length ≤ 200 := fun g hg => by obtain ⟨k, hk, rfl⟩ := List.mem_map.1 hg;rw [List.mem_range, hgl] at hk;exact Iu hj seed V k (ps.getD k (0, 0)) (by rw [hat k hk])
 refine ⟨rfl, ⟨?_, fun g h => ?_, ?_⟩, ?_, ?_, fun g h => ?_⟩
 ·simp; omega
 ·obtain ⟨h1, h2, h3, h4⟩ := hg g h; exact ⟨by omega, by omega, h4⟩
 ·grind
 ·simp [hgl]
 ·grind
 grind
theorem vj {ps : List (Nat × Nat)} : ∀ x ∈ jY z ps n, x.pk.Small ∧ x.way.length ≤ 1000 := fun x hx => by
 obtain ⟨i, _, rfl⟩ := List.mem_map.1 hx;generalize ps.getD i (0, 0) = p;obtain ⟨_, s2, s3⟩ := fA (vZ (ident := [UInt8.ofNat p.1]) (zC p) (by simp) (by simp));have h0 : (NN p).length = 32 := cX _;refine ⟨⟨?_, s2, s3⟩, ?_⟩
 ·show (Pb z i p).length ≤ 100;unfold Pb MZ; split
  ·simp
  split
  ·simp
  omega
 show (Gw z i p).length ≤ 1000;unfold Gw rG; split
 ·simp
 split
 ·rw [kX]; omega
 simp
end
open Go.RowKit Tryz
attribute [local irreducible] Y Ef WL WC WK WQ WM cv WN WF cZ WJ gI WR qK
open Wire Nd Hk
theorem DH {x : jo} (H : eL w cs x) (hS : ∀ g ∈ S, ∃ t cs, ao w g t cs ∧ ui cs = true) : Kp w.heap.size S (fun w => eL w cs x) w := by obtain ⟨g, t, u, tg, sg, a, b, c, d, e, f, g', h, i, j, k, l, y, rfl, h1, h2, h3⟩ := H;exact ⟨Nat.le_refl _, fun w2 hw => ⟨g, t, u, tg, sg, a, b, c, d, e, f, g', h, i, j, k, l, y, rfl, (vN h1 hS).2 w2 hw, (rN h2 hS).2 w2 hw, (fC h3 hS).2 w2 hw⟩⟩
theorem Lr {α : Type} {R : World → Array Value → α → Prop} {xs : List α} (h : rl R sz w A n xs) (hA : ∀ g ∈ S, ∀ o, A ≠ some ⟨g, o, none⟩) (hR : ∀ cs x, R w cs x → Kp w.heap.size S (fun w => R w cs x) w) : Kp w.heap.size S (fun w => rl R sz w A n xs) w := by obtain ⟨hl, vs, h2, h3, h4⟩ := h;exact ⟨Nat.le_refl _, fun w2 hw => ⟨hl, vs, h2, (Kp.at h3 (fun _ => hA)).2 w2 hw, fun i x hx => (hR _ _ (h4 i x hx)).2 w2 hw⟩⟩
theorem JI {α : Type} {RC : (Hd → List UInt8 → Prop) → Array Value → α → Prop} {x : α} (I : NL RC) (h : RC (py w) cs x) (hS : ∀ g ∈ S, ∃ t cs, ao w g t cs ∧ ui cs = true) : Kp w.heap.size S (fun w => RC (py w) cs x) w :=
 ⟨Nat.le_refl _, fun w2 hw => I _ _ _ _ h fun _ _ b => (fC b hS).2 w2 hw⟩
theorem PM (_ : Ext w w') : Ext w' w' := Ext.refl w'
theorem uh {ps : List (Nat × Nat)} : ∀ x ∈ nR ps n, x.1.length = 32 := fun x hx => by obtain ⟨i, _, rfl⟩ := List.mem_map.1 hx;exact dO _
theorem tN (h : (Lit.int .u8 o).wf = true) : ∃ k : Nat, o = (k : Int) ∧ k < 256 := by have h := bounds_u8 h;exact ⟨o.toNat, by omega, by omega⟩
theorem qh (A : Oa) (n c : Nat) (js : Lb) (cs : Array Value) (i : jq) (B : Oa) (m d : Nat) (ps : List (Nat × Nat)) (o1 o2 o3 o4 o5 : Int) (w : World) (HA : Bs w A n js) (_hn : n ≤ maxLen) (HI : OU w cs i) (HP : rl yw 2 w B m ps)
  (h1 : (Lit.int .u8 o1).wf = true) (h2 : (Lit.int .u8 o2).wf = true) (h3 : (Lit.int .u8 o3).wf = true) (h4 : (Lit.int .u8 o4).wf = true) (h5 : (Lit.int .u8 o5).wf = true) :
  Ct 4 #[.slice A n c, .agg cs, .slice B m d, .int .u8 o1, .int .u8 o2, .int .u8 o3, .int .u8 o4, .int .u8 o5] w fun e w' => e = .returned (.bool true) ∧ Below w.heap.size w w' := by
 have E := Ext.refl w;have hpl := HP.1;have hjl := HA.1;obtain ⟨k1, rfl, _⟩ := tN h1;obtain ⟨k2, rfl, _⟩ := tN h2;obtain ⟨k3, rfl, _⟩ := tN h3;obtain ⟨k4, rfl, _⟩ := tN h4;obtain ⟨k5, rfl, VL⟩ := tN h5;obtain ⟨i0, i1, i2, i3, i4, rfl, hep, hfz, v0, v1, v2, v3, v4⟩ := HI.1;have l3 := v3.1; have l4 := v4.1; have l2 := v2.1;refine ai 220 func4 rfl rfl rfl rfl ?_;intro _ hret;refine aU ?_;intro _ VM B9 VR ex;have WX := B9.lt;replace E := E.ext ex;refine aU ?_;refine aC func7 rfl (xx _) ?_;rintro e _ ⟨rfl, ex⟩;obtain ⟨E,B9⟩ := aZ ex E B9;refine au 4 ?_;refine bg rfl rfl ?_;refine aU ?_;refine aC func15 rfl (tR _ (jB.ctx (HI.1.ext E)).at hep) ?_;rintro e _ ⟨rfl, ex⟩;obtain ⟨E,B9⟩ := aZ ex E B9;refine au 1 ?_;refine lJ (nr rfl) rfl (fun q0 => ?_) (fun q0 => ?_)
 ·refine au 29 ?_;refine bX rfl rfl ?_;refine aU ?_;refine hret rfl ?_;exact ⟨rfl, E⟩
 refine au 4 ?_;refine aG 33 rfl rfl (iY rfl rfl) rfl (fun q1 => ?_) (fun q1 => ?_)
 ·refine au 24 ?_;refine bX rfl rfl ?_;refine aU ?_;refine hret rfl ?_;exact ⟨rfl, E⟩
 refine au 5 ?_;refine aG 39 rfl rfl (iY rfl rfl) rfl (fun q2 => ?_) (fun q2 => ?_)
 ·refine au 18 ?_;refine bX rfl rfl ?_;refine aU ?_;refine hret rfl ?_;exact ⟨rfl, E⟩
 refine au 4 ?_;refine aG 45 rfl rfl (gO rfl rfl) rfl (fun q3 => ?_) (fun q3 => ?_)
 ·refine au 13 ?_;refine bX rfl rfl ?_;refine aU ?_;refine hret rfl ?_;exact ⟨rfl, E⟩
 refine au 4 ?_;refine aG 50 rfl rfl (cO rfl rfl) rfl (fun q4 => ?_) (fun q4 => ?_)
 ·refine au 8 ?_;refine bX rfl rfl ?_;refine aU ?_;refine hret rfl ?_;exact ⟨rfl, E⟩
 refine au 4 ?_;refine aG 55 rfl rfl (iY rfl rfl) rfl (fun q5 => ?_) (fun q5 => ?_)
 ·refine au 3 ?_;refine bX rfl rfl ?_;refine aU ?_;refine hret rfl ?_;exact ⟨rfl, E⟩
 refine au 3 ?_;refine bg rfl rfl ?_;have hsm : i.ctx.Small := by simpa using q0
 refine aU ?_;have WY := B9.lt;refine aC func16 rfl (AY (-1) _ (HP.ext E fun _ _ h => h) Om) ?_;rintro e w3 ⟨A1, c1, A2, c2, rfl, HG, HK, hnw, ex⟩;obtain ⟨E,B9⟩ := aZ ex E B9;have Z3 := Ext.refl w3
 have Wb : ∀ g ∈ [VM], ∀ o, A1 ≠ some ⟨g, o, none⟩ ∧ A2 ≠ some ⟨g, o, none⟩ := fun g hg o => by
  obtain rfl : g = VM := by simpa using hg
  exact ⟨fun e => by have := hnw _ _ (.inl e); omega, fun e => by have := hnw _ _ (.inr e); omega⟩
 refine au 17 ?_;refine bg rfl rfl ?_;refine aU ?_;refine aC func17 rfl (Ak A n c js _ i.ctx _ (Bs.ext HA E) Om (jB.ctx (HI.1.ext E)).at hsm) ?_;rintro e w4 ⟨_, rfl, HS, ex⟩;obtain ⟨E,B9,Z3⟩ := bF ex E B9 Z3;obtain ⟨s0, s1, s2, s3, s4, s5, s6, s7, s8, s9, VS, VT, rfl⟩ := HS.form; have Z4 := Ext.refl w4;have z83 := Z3.size; have b9 := B9.lt;refine aU ?_;intro WZ Wc (Vw : ao _ _ _ (sZ an an an an an an an an an an an an)) Wi ex;obtain ⟨E,B9,Z3,Z4⟩ := bU ex E B9 Z3 Z4;refine aU ?_;intro _ Wj cg;replace E := E.aA cg Om; replace Z3 := Z3.aA cg Om; replace Z4 := Z4.aA cg Om; replace B9 := B9.aA cg Om; replace Vw := Wj.congr (cs' := sZ s0 s1 s2 s3 s4 s5 s6 s7 s8 s9 VS VT) rfl;refine au 6 ?_;refine al (ck rfl rfl Om (IntWalk.rem_in _ _ Om)) ?_;refine aU ?_;refine eD (fun L Vq => ∃ (hT : Hd) (tt : Lb), L = [(0, .slice A n c), (2, .slice B m d), (3, .int .u8 (k1 : Int)), (4, .int .u8 (k2 : Int)), (5, .int .u8 (k3 : Int)), (6, .int .u8 (k4 : Int)), (7, .int .u8 (k5 : Int)), (9, .pointer (some ⟨VM, 0, none⟩)), (17, .slice A1 m c1), (18, .slice A2 m c2), (20, .pointer (some ⟨Wc, 0, none⟩))] ∧ (Ext w Vq ∧ ao Vq VM 42 (oY i0 i.ctx.ep i1 i2 hT i.frm i4) ∧ ao Vq Wc 44 (sZ s0 s1 s2 s3 s4 s5 s6 s7 s8 s9 VS VT) ∧ py Vq hT tt ∧ tt.length ≤ 100 ∧ cT Vq (sZ s0 s1 s2 s3 s4 s5 s6 s7 s8 s9 VS VT) (eo js i.ctx) ∧ rl tX 9 Vq A1 m (jY (-1) ps m) ∧ rl (fun w => iE (py w)) 3 Vq A2 m (nR ps m))) ?_ ?_
 ·skip;refine ak rfl (fun Wk => ?_) (fun Wk => ?_)
  ·refine aU ?_;have y8 := vu (HS.ext Z4);have W0 := y8.1; have e8 := lW js i.ctx;refine aC func18 rfl (kf _ _ _ _ _ _ _ _ _ y8 Om (Bs.ext v2 E) (by have := hsm.2.2.1; omega)) ?_;rintro e _ ⟨Wl, Wm, rfl, Wn, ex⟩;obtain ⟨E,B9,Z3,Z4,Vw⟩ := eQ ex E B9 Z3 Z4 Vw;have We := Wn.bs;have Wo := B9.lt;have VN := bV B9 (by rfl) dE;have Wq := fC We VN;have KS := rN (HS.ext Z4) VN;have KG := Lr (HG.ext Z3 fun _ _ h => tX.ext h Z3) (fun g hg o => (Wb g hg o).1) (fun _ _ h => JI Cq.imp' h VN);have KK := Lr (HK.ext Z3 fun _ _ h => iE.imp _ _ _ _ h fun _ _ b => Bs.ext b Z3) (fun g hg o => (Wb g hg o).2) (fun _ _ h => JI iE.imp h VN);refine aU ?_;intro _ D9 cg;have C9 := aE.one cg; have VU := E.aA cg VR; have VV := Vw.aA cg Om;refine aU ?_;exact bd _ ⟨⟨Wl, 32, Wm⟩, Mac.tag ((eo js i.ctx).getD 8 []) i.ctx.trans, rfl, VU, D9, VV, (Wq.bk C9 (by simp)).out, (by have := We.1; omega), (KS.bk C9 (by simp)).out, (KG.bk C9 (by simp)).out, (KK.bk C9 (by simp)).out⟩ Ls
  refine aU ?_;exact bd _ ⟨i3, i.tag, rfl, E, B9, Vw, Bs.ext v3 E, Om, HS.ext Z4, (HG.ext Z3 fun _ _ h => tX.ext h Z3), (HK.ext Z3 fun _ _ h => iE.imp _ _ _ _ h fun _ _ b => Bs.ext b Z3)⟩ Ls
 rintro L Vq ⟨hT, tt, rfl, E, B9, Vw, HT, _, HS, HG, HK⟩;have Z := Ext.refl Vq
 obtain ⟨x1, VO⟩ : ∃ x, x = (⟨i.ctx, tt, i.frm, i.sig⟩ : jq) := ⟨_, rfl⟩
 have Wf : ∀ W, Ext w W → Ext Vq W → fX W (oY i0 i.ctx.ep i1 i2 hT i.frm i4) x1 := fun W E Z => by rw [VO]; exact ⟨i0, i1, i2, hT, i4, rfl, hep, hfz, Bs.ext v0 E, Bs.ext v1 E, Bs.ext v2 E, Bs.ext HT Z, Bs.ext v4 E⟩
 refine aU ?_;refine aC func19 rfl (pX _ (Wf _ E Z)) ?_;rintro e _ ⟨rfl, ex⟩;obtain ⟨E,B9,Vw,Z⟩ := bU ex E B9 Vw Z;refine au 1 ?_;refine lJ (nr rfl) rfl (fun q6 => ?_) (fun q6 => ?_)
 ·refine au 2 ?_;refine bX rfl rfl ?_;refine aU ?_;refine hret rfl ?_;exact ⟨rfl, E⟩
 refine au 2 ?_;refine bg rfl rfl ?_;have okx : gL x1 := by simpa using q6
 have hsx : x1.ctx.Small := by rw [VO]; exact hsm
 have htx : x1.tag.length ≤ 1000 := by rw [VO]; show tt.length ≤ 1000; omega
 have Wr : x1.sig.length ≤ 1000 := by rw [VO]; show i.sig.length ≤ 1000; omega
 obtain ⟨hz, hXs, hgl, hil, hgs⟩ := yH (ts := eo js i.ctx) (i := x1) (seed := js) (ps := ps) (n := m) (by show js.length = 32; omega) okx Om hpl
 obtain ⟨X, hX⟩ : ∃ X, X = (iu (eo js i.ctx) x1 (jY (-1) ps m) js).1 := ⟨_, rfl⟩
 rw [← hX] at hXs hgl hil hgs;refine au 4 ?_;refine al (aW rfl Tn.u rfl Kr (by assumption)) ?_;refine aU ?_;have Ws := Z.size; have Ww := B9.lt; have Wx := Vw.lt;refine aC func20 rfl (xR (G := ⟨A1, m, c1⟩) (D := ⟨A, n, c⟩) (ts := eo js i.ctx) _ (HS.ext Z) (by show js.length ≤ 1000; omega) (by rw [pL]; unfold ln; rw [dK]; omega) (Wf _ E Z) hsx htx Wr (HG.ext Z fun _ _ h => tX.ext h Z) vj (Bs.ext HA E) (by show n ≤ 1000; omega)) ?_;rintro e w5 ⟨_, rfl, _, hS, ex⟩;refine au 1 ?_;obtain ⟨E,Z⟩ := aZ ex E Z;rw [← hX] at hS; obtain ⟨GA, gn, gc, I, rfl, HE, HB, hIc⟩ := hS hz; have C5 := Ext.refl w5; obtain rfl : m = gn := by { have := HE.1; omega }; have HWS := GC.ac ⟨GA, m, gc, I, rfl, HE, HB, hIc⟩
 have Wy := E.size; have Wg := Z.size;refine aU ?_;intro Wz Wh (Vs : ao _ _ _ (fK an an)) WA ex;obtain ⟨E,Z,C5⟩ := bF ex E Z C5;refine aU ?_;intro _ WB cg;replace E := E.aA cg Om; replace Z := Z.aA cg Om; replace C5 := C5.aA cg Om; replace Vs := WB.congr (cs' := fK ⟨GA, m, gc⟩ I) rfl;refine au 7 ?_;refine al (Y.as (gO rfl rfl) (congrArg Value.bool (decide_eq_false (fun h => h (by rw [hz]; rfl))))) ?_;refine au 2 ?_;refine bg rfl rfl ?_;refine au 5 ?_;refine al (bo rfl Tn.u Tn.u (show _ = ((k1 : Nat) : Int) from bj Om Om)) ?_;refine au 2 ?_;refine al (ck rfl rfl Om (show ((k1 : Nat) : Int).tmod ((m : Nat) : Int) = ((k1 % m : Nat) : Int) from rfl)) ?_;refine au 7 ?_;refine al (ck rfl rfl Om (show ((k3 : Nat) : Int).tmod 6 = ((k3 % 6 : Nat) : Int) from rfl)) ?_;have hkm : k1 % m < m := Nat.mod_lt _ Om;obtain ⟨bG, oG, W3, g1, eG, _, hgx, _, ⟨f0, f1, f2, rfl, R0, R1, R2, _⟩, hcx⟩ := HE.Ck Om (i := k1 % m) hkm;have Vx : ∀ W', Ext w5 W' → ∀ j v, (fx f0 f1 f2)[j]? = some v → W'.cell? ⟨bG, oG + k1 % m * 3 + j, none⟩ = some v := fun W' E j v hv => (Below.cell E (dX (hcx j v hv))).trans (hcx j v hv);obtain ⟨t0, t1, t2⟩ := hgs g1 (List.mem_of_getElem? hgx);have n0 := R0.1.1; have n1 := R1.1.1; have n2 := R2.1.1; have nI := HB.1.1;refine aU ?_;refine eD (fun L Vt => ∃ (x2 : kg), L = [(2, .slice B m d), (4, .int .u8 (k2 : Int)), (17, .slice A1 m c1), (18, .slice A2 m c2), (21, .pointer (some ⟨Wh, 0, none⟩)), (23, .int .i64 ((k1 % m : Nat) : Int))] ∧ (Ext w Vt ∧ Ext Vq Vt ∧ ao Vt Wh 25 (fK ⟨GA, m, gc⟩ I) ∧ ka Vt (fK ⟨GA, m, gc⟩ I) x2 ∧ x2.Small)) ?_ ?_
 ·skip;refine ak rfl (fun WD => ?_) (fun WD => ?_)
  ·skip;refine az Kr 14 rfl ?_; intro WE ex WG;obtain ⟨E,Z,C5,Vs⟩ := bU ex E Z C5 Vs;have hq : k4 % I.n < I.n := Nat.mod_lt _ Om;obtain ⟨bI, oI, tI, curI, eI, VW, VX, DI, hcI⟩ := HB.open Om C5;obtain ⟨xb, hxb, hlt⟩ := hcI _ hq;obtain ⟨yb, hyb⟩ := vP xb VL;have HXW := HWS.ext C5;rw [← Nat.mul_one (k4 % I.n)] at hxb hlt;refine zm [0, 1, 2] ?_;refine my 3 rfl (bo rfl Tn.u Tn.u (show _ = ((k4 : Nat) : Int) from bj Om Om)) ?_;refine zm [4, 5, 6] ?_;refine dg 7 rfl (fun _ => ck rfl rfl Om (show ((k4 : Nat) : Int).tmod ((I.n : Nat) : Int) = ((k4 % I.n : Nat) : Int) from rfl)) ?_;refine dg 8 rfl (fun _ => cH (s := 1) (j := k4 % I.n) eI rfl rfl Tn.u Kr rfl hq) ?_;refine my 9 rfl (af rfl Tn.u rfl hxb) ?_;refine zm [10] ?_;refine dg 11 rfl (fun _ => bP rfl rfl (bH (p := xb.toNat) (q := k5) (by have := xb.toNat_lt; omega) Om).2.2) ?_;refine dg 12 rfl (fun _ => cH (s := 1) (j := k4 % I.n) eI rfl rfl Tn.u Kr rfl hq) ?_;refine aL 13 Kr ?_; refine aQ rfl (aq rfl rfl rfl Kr DI hlt) rfl ?_;rintro _ Vu ⟨rfl, Vv, cg⟩;refine ⟨.inl rfl, ?_⟩;rw [hyb] at Vv; obtain ⟨x2, Vz, VA⟩ := HXW.flip hXs (xg.of DI hxb Vv cg); have VB := E.aA cg Om; have VC := Z.aA cg Om; have VD := Vs.aA cg Om;refine aU ?_;exact bd _ ⟨x2, rfl, VB, VC, VD, Vz, VA⟩ Ls
  refine aU ?_;refine ak rfl (fun WH => ?_) (fun WH => ?_)
  ·skip;refine az Kr 24 rfl ?_; intro WI ex WO;obtain ⟨E,Z,C5,Vs⟩ := bU ex E Z C5 Vs;have hq : k4 % f2.n < f2.n := Nat.mod_lt _ Om;obtain ⟨bI, oI, tI, curI, eI, VW, VX, DI, hcI⟩ := R2.open Om C5;obtain ⟨xb, hxb, hlt⟩ := hcI _ hq;obtain ⟨yb, hyb⟩ := vP xb VL;have HXW := HWS.ext C5;rw [← Nat.mul_one (k4 % f2.n)] at hxb hlt;refine zm [0, 1, 2] ?_;refine dg 3 rfl (fun _ => cH (s := 3) (j := k1 % m) eG rfl rfl Tn.u Kr rfl hkm) ?_;refine zm [4, 5] ?_;refine my 6 rfl (af rfl Tn.u rfl (Vx _ C5 2 _ rfl)) ?_;refine zm [7] ?_;refine my 8 rfl (bo rfl Tn.u Tn.u (show _ = ((k4 : Nat) : Int) from bj Om Om)) ?_;refine zm [9, 10, 11] ?_;refine dg 12 rfl (fun _ => cH (s := 3) (j := k1 % m) eG rfl rfl Tn.u Kr rfl hkm) ?_;refine zm [13, 14] ?_;refine my 15 rfl (af rfl Tn.u rfl (Vx _ C5 2 _ rfl)) ?_;refine zm [16] ?_;refine dg 17 rfl (fun _ => ck rfl rfl Om (show ((k4 : Nat) : Int).tmod ((f2.n : Nat) : Int) = ((k4 % f2.n : Nat) : Int) from rfl)) ?_;refine dg 18 rfl (fun _ => cH (s := 1) (j := k4 % f2.n) eI rfl rfl Tn.u Kr rfl hq) ?_;refine my 19 rfl (af rfl Tn.u rfl hxb) ?_;refine zm [20] ?_;refine dg 21 rfl (fun _ => bP rfl rfl (bH (p := xb.toNat) (q := k5) (by have := xb.toNat_lt; omega) Om).2.2) ?_;refine dg 22 rfl (fun _ => cH (s := 1) (j := k4 % f2.n) eI rfl rfl Tn.u Kr rfl hq) ?_;refine aL 23 Kr ?_; refine aQ rfl (aq rfl rfl rfl Kr DI hlt) rfl ?_;rintro _ Vu ⟨rfl, Vv, cg⟩;refine ⟨.inl rfl, ?_⟩;rw [hyb] at Vv; obtain ⟨x2, Vz, VA⟩ := HXW.flip hXs (xg.of DI hxb Vv cg); have VB := E.aA cg Om; have VC := Z.aA cg Om; have VD := Vs.aA cg Om;refine aU ?_;exact bd _ ⟨x2, rfl, VB, VC, VD, Vz, VA⟩ Ls
  refine aU ?_;refine ak rfl (fun WS => ?_) (fun WS => ?_)
  ·have hq : k4 % 32 < f1.n := by omega
   obtain ⟨bI, oI, tI, curI, eI, VW, VX, DI, hcI⟩ := R1.open Om C5;obtain ⟨xb, hxb, hlt⟩ := hcI _ hq;obtain ⟨yb, hyb⟩ := vP xb VL;have HXW := HWS.ext C5;rw [← Nat.mul_one (k4 % 32)] at hxb hlt;refine au 4 ?_;refine al (cH (s := 3) (j := k1 % m) eG rfl rfl Tn.u Kr rfl hkm) ?_;refine au 2 ?_;refine al (af rfl Tn.u rfl (Vx _ C5 1 _ rfl)) ?_;refine au 1 ?_;refine al (bo rfl Tn.u Tn.u (show _ = ((k4 : Nat) : Int) from bj Om Om)) ?_;refine al (ck rfl rfl Om (show ((k4 : Nat) : Int).tmod 32 = ((k4 % 32 : Nat) : Int) from rfl)) ?_;refine al (cH (s := 1) (j := k4 % 32) eI rfl rfl Tn.u Kr rfl hq) ?_;refine al (af rfl Tn.u rfl hxb) ?_;refine au 1 ?_;refine al (bP rfl rfl (bH (p := xb.toNat) (q := k5) (by have := xb.toNat_lt; omega) Om).2.2) ?_;refine al (cH (s := 1) (j := k4 % 32) eI rfl rfl Tn.u Kr rfl hq) ?_;refine ag (aq rfl rfl rfl Kr DI hlt) rfl ?_;rintro _ Vu ⟨rfl, Vv, cg⟩;rw [hyb] at Vv; obtain ⟨x2, Vz, VA⟩ := HXW.flip hXs (xg.of DI hxb Vv cg); have VB := E.aA cg Om; have VC := Z.aA cg Om; have VD := Vs.aA cg Om;refine aU ?_;exact bd _ ⟨x2, rfl, VB, VC, VD, Vz, VA⟩ Ls
  refine aU ?_;refine ak rfl (fun VY => ?_) (fun VY => ?_)
  ·have hq : k4 % 32 < f0.n := by omega
   obtain ⟨bI, oI, tI, curI, eI, VW, VX, DI, hcI⟩ := R0.open Om C5;obtain ⟨xb, hxb, hlt⟩ := hcI _ hq;obtain ⟨yb, hyb⟩ := vP xb VL;have HXW := HWS.ext C5;rw [← Nat.mul_one (k4 % 32)] at hxb hlt;refine au 4 ?_;refine al (cH (s := 3) (j := k1 % m) eG rfl rfl Tn.u Kr rfl hkm) ?_;refine au 1 ?_;refine al (af rfl Tn.u rfl (Vx _ C5 0 _ rfl)) ?_;refine au 1 ?_;refine al (bo rfl Tn.u Tn.u (show _ = ((k4 : Nat) : Int) from bj Om Om)) ?_;refine al (ck rfl rfl Om (show ((k4 : Nat) : Int).tmod 32 = ((k4 % 32 : Nat) : Int) from rfl)) ?_;refine al (cH (s := 1) (j := k4 % 32) eI rfl rfl Tn.u Kr rfl hq) ?_;refine al (af rfl Tn.u rfl hxb) ?_;refine au 1 ?_;refine al (bP rfl rfl (bH (p := xb.toNat) (q := k5) (by have := xb.toNat_lt; omega) Om).2.2) ?_;refine al (cH (s := 1) (j := k4 % 32) eI rfl rfl Tn.u Kr rfl hq) ?_;refine ag (aq rfl rfl rfl Kr DI hlt) rfl ?_;rintro _ Vu ⟨rfl, Vv, cg⟩;rw [hyb] at Vv; obtain ⟨x2, Vz, VA⟩ := HXW.flip hXs (xg.of DI hxb Vv cg); have VB := E.aA cg Om; have VC := Z.aA cg Om; have VD := Vs.aA cg Om;refine aU ?_;exact bd _ ⟨x2, rfl, VB, VC, VD, Vz, VA⟩ Ls
  refine aU ?_;exact bd _ ⟨X, rfl, E, Z, Vs, HWS.ext C5, hXs⟩ Ls
 rintro L Vt ⟨x2, rfl, E, Z, Vs, HX, hxs⟩;refine aU ?_;have X7 := Ext.refl Vt;have VE : k2 % m < m := Nat.mod_lt _ Om;obtain ⟨bA, oA, gy, p0, p1, p2, p3, p4, p5, p6, p7, eA, hgy, hgc, _, HPk, _⟩ := Kk HG hkm;obtain ⟨bK, oK, W4, ky, eK, _, hky, _, ⟨r0, r1, r2, rfl, Q0, Q1, Q2⟩, hkc⟩ := HK.Ck Om (i := k2 % m) VE;have VK : ∀ W', Ext Vq W' → ∀ j v, (fx r0 r1 r2)[j]? = some v → W'.cell? ⟨bK, oK + k2 % m * 3 + j, none⟩ = some v := fun W' E j v hv => (Below.cell E (dX (hkc j v hv))).trans (hkc j v hv);have hps := (vj gy (List.mem_of_getElem? hgy)).1;have hki : ky.1.length ≤ 100 := by rw [uh ky (List.mem_of_getElem? hky)]; omega
 have HKy : ∀ W, Ext Vq W → qE W (fx r0 r1 r2) ky.1 ky.2.1 ky.2.2 := fun W Z => ⟨r0, r1, r2, rfl, Bs.ext Q0 Z, Bs.ext Q1 Z, Bs.ext Q2 Z⟩;refine dB Kr 21 rfl ?_; intro VZ ex WT;obtain ⟨E,Z,Vs,X7⟩ := bU ex E Z Vs X7;have V0 := E;have VJ := Z;have Vy := Vs;have V4 := X7;have X0 := Ext.refl VZ;refine cS 0 rfl Kr (aW rfl Tn.u rfl Kr (by assumption)) rfl ?_;refine zm [1, 2] ?_;refine cS 3 rfl Kr (cH (s := 9) (j := k1 % m) eA rfl rfl Tn.u Kr rfl hkm) rfl ?_;refine zm [4] ?_;refine cS 5 rfl Kr (dP (cs := dH p0 p1 p2 p3 gy.pk.leaf.src p4 p5 p6) rfl Tn.u rfl Kr fun j v hv => by rw [Addr.add_plain]; exact hgc _ VJ j v (pa hv)) rfl ?_;refine zm [6, 7] ?_;refine cS 8 rfl Kr (bo rfl Tn.u Tn.u (show _ = ((k2 : Nat) : Int) from bj Om Om)) rfl ?_;refine zm [9, 10] ?_;refine cS 11 rfl Kr (ck rfl rfl Om (show ((k2 : Nat) : Int).tmod ((m : Nat) : Int) = ((k2 % m : Nat) : Int) from rfl)) rfl ?_;refine cS 12 rfl Kr (cH (s := 3) (j := k2 % m) eK rfl rfl Tn.u Kr rfl VE) rfl ?_;refine cS 13 rfl Kr (dP (cs := fx r0 r1 r2) rfl Tn.u rfl Kr fun j v hv => by rw [Addr.add_plain]; exact VK _ VJ j v hv) rfl ?_;refine dC (fl := [rQ 18 24 46 (cE)]) rfl ?_;refine kM 14 (some 190) func12 ?_;intro _ ex exb;obtain ⟨E,Z,Vs,X7,X0⟩ := eQ ex E Z Vs X7 X0;refine ⟨_, (pV _ (HX.ext X7) hxs (HPk.ext Z) hps (HKy _ Z) hki), ?_⟩;rintro e _ ⟨_, rfl, VP, _, ex⟩;refine ⟨_, rfl, ex, ?_⟩;obtain ⟨E,Z,Vs,X7,X0⟩ := eQ ex E Z Vs X7 X0;obtain ⟨a0, a1, a2, a3, a4, a5, a6, a7, a8, a9, W5, W6, W9, Xa, Xb, Xc, Xd, Xe, rfl, _⟩ := id VP;refine kJ (dst := some 175) 15 rfl Kr (aY rfl) rfl (aT (of_decide_eq_true rfl) av) ?_;refine kJ (dst := some 191) 16 rfl Kr (dA rfl rfl) rfl (aT (of_decide_eq_true rfl) av) ?_;refine kJ (dst := some 192) 17 rfl Kr (dA rfl rfl) rfl (aT (of_decide_eq_true rfl) av) ?_;refine ij ⟨(aT (bM rfl Kr) av), of_decide_eq_true rfl, of_decide_eq_true rfl, (aT (⟨rfl, of_decide_eq_true rfl⟩) av), (aT (aV Kr) av)⟩ Kr ?_;rintro _ _ ex ⟨⟨WU, rfl, Vr⟩, VF⟩;replace VF := VF WU rfl;obtain ⟨E,Z,Vs,X7,X0⟩ := eQ ex E Z Vs X7 X0;have V5 := DH (VP.ext ex) (bV Vr rfl dE);refine df 19 Kr ?_;refine eC rfl (ah rfl rfl Kr Vr rfl (aO rfl)) rfl ?_;rintro _ _ ⟨rfl, Vr, cg⟩;replace X0 := X0.aA cg VF;refine ⟨X0, ?_⟩;replace E := V0.ext X0;replace Z := VJ.ext X0;replace Vs := Vy.ext X0;replace X7 := V4.ext X0;have VP := (V5.bk (aE.one cg) (by simp)).out;refine zm [20] ?_;refine dW Kr ?_;refine aU ?_;have Y1 := PM E;refine dB Kr 21 rfl ?_; intro V6 ex WV;obtain ⟨E,Z,Vs,X7,Vr,Y1⟩ := iJ ex E Z Vs X7 Vr Y1;have V0 := E;have VJ := Z;have Vy := Vs;have VG := Vr;have V9 := Y1;have X0 := Ext.refl V6;refine cS 0 rfl Kr (aW rfl Tn.u rfl Kr (by assumption)) rfl ?_;refine zm [1, 2] ?_;refine cS 3 rfl Kr (cH (s := 9) (j := k1 % m) eA rfl rfl Tn.u Kr rfl hkm) rfl ?_;refine zm [4] ?_;refine cS 5 rfl Kr (dP (cs := dH p0 p1 p2 p3 gy.pk.leaf.src p4 p5 p6) rfl Tn.u rfl Kr fun j v hv => by rw [Addr.add_plain]; exact hgc _ VJ j v (pa hv)) rfl ?_;refine zm [6, 7] ?_;refine cS 8 rfl Kr (bo rfl Tn.u Tn.u (show _ = ((k2 : Nat) : Int) from bj Om Om)) rfl ?_;refine zm [9, 10] ?_;refine cS 11 rfl Kr (ck rfl rfl Om (show ((k2 : Nat) : Int).tmod ((m : Nat) : Int) = ((k2 % m : Nat) : Int) from rfl)) rfl ?_;refine cS 12 rfl Kr (cH (s := 3) (j := k2 % m) eK rfl rfl Tn.u Kr rfl VE) rfl ?_;refine cS 13 rfl Kr (dP (cs := fx r0 r1 r2) rfl Tn.u rfl Kr fun j v hv => by rw [Addr.add_plain]; exact VK _ VJ j v hv) rfl ?_;refine dC (fl := [rQ 18 26 46 (cE)]) rfl ?_;refine kM 14 (some 208) func13 ?_;intro _ ex exb;obtain ⟨E,Z,X7,Vr,Y1,X0⟩ := iJ ex E Z X7 Vr Y1 X0;refine ⟨_, (Fz _ (HX.ext X7) hxs (HPk.ext Z) hps (HKy _ Z) hki), ?_⟩;rintro e _ ⟨_, rfl, VQ, ex⟩;refine ⟨_, rfl, ex, ?_⟩;obtain ⟨E,Vr,Y1,X0⟩ := bU ex E Vr Y1 X0;obtain ⟨b0, b1, b2, b3, b4, b5, b6, b7, b8, b9, Wo, Xf, Xg, Ww, Xh, Xi, Xj, Xk, rfl, _⟩ := id VQ;refine kJ (dst := some 193) 15 rfl Kr (aY rfl) rfl (aT (of_decide_eq_true rfl) av) ?_;refine kJ (dst := some 209) 16 rfl Kr (dA rfl rfl) rfl (aT (of_decide_eq_true rfl) av) ?_;refine kJ (dst := some 210) 17 rfl Kr (dA rfl rfl) rfl (aT (of_decide_eq_true rfl) av) ?_;refine ij ⟨(aT (bM rfl Kr) av), of_decide_eq_true rfl, of_decide_eq_true rfl, (aT (⟨rfl, of_decide_eq_true rfl⟩) av), (aT (aV Kr) av)⟩ Kr ?_;rintro _ _ ex ⟨⟨WW, rfl, VH⟩, VI⟩;replace VI := VI WW rfl;obtain ⟨E,Vr,Y1,X0⟩ := bU ex E Vr Y1 X0;have Wa := DH (VQ.ext ex) (bV VH rfl dE);refine df 19 Kr ?_;refine eC rfl (ah rfl rfl Kr VH rfl (aO rfl)) rfl ?_;rintro _ _ ⟨rfl, VH, cg⟩;replace X0 := X0.aA cg VI;refine ⟨X0, ?_⟩;replace E := V0.ext X0;replace Vr := VG.ext X0;replace Y1 := V9.ext X0;have VQ := (Wa.bk (aE.one cg) (by simp)).out;refine zm [20] ?_;refine dW Kr ?_;refine aU ?_;refine fJ 215 rfl rfl func14 rfl rfl rfl (EY _ (VP.ext Y1) VQ (Ge (Nat.le_trans hxs.2.2 (show 500 ≤ 10000 by omega)))) rfl ?_;rintro e _ ⟨rfl, ex⟩;replace E := E.ext ex;refine aU ?_;refine hret rfl ?_;exact ⟨rfl, E⟩
end Go.Proofs.YtgfafidlkldeaaaGreat
