/- The law's own sealed: what it makes is what welcome.Make makes, each slice in a block of its own. No conditions: contracts of functions. -/
import Derived.Test.YtgfafidlkldeaaaGreatWlI
import Derived.Test.YtgfafidlkldeaaaGreatAu
set_option linter.unusedVariables false
set_option linter.unusedSimpArgs false
set_option maxHeartbeats 4000000
set_option maxRecDepth 4000
namespace Go.Proofs.YtgfafidlkldeaaaGreat
open Go.RowKit Tryz
section
variable {P : Program} {L : List (Nat × Value)} {w : World} {ty t e : TypeId} {x y : Operand}
theorem Y.JI {op : Op} {v : Value} (h : Y P L w op ty v) : Ef P L w op ty fun u w' => u = v ∧ w' = w ∧ Ext w w' := h.ef.mono fun _ _ ⟨a, b⟩ => ⟨a, b, b ▸ Ext.refl w⟩
theorem gN {g m c2 bytes : Nat} {B : Oa} {ys : List Value} (hx : ev L x = some (.slice (some ⟨g, 0, none⟩) 0 0)) (hy : ev L y = some (.slice B m c2)) (hE : vm P t e bytes) (hr : At w B ys) (hl : ys.length = m) (hm : 0 < m)
  (hlen : m * bytes ≤ 140737488355328) (Vl : m ≤ 140737488355328) : Ef P L w (.call { callee := .builtin .append, args := #[x, y], argTypes := #[t, t] }) ty fun v w' => ∃ A' c', v = .slice A' m c' ∧ Row w' w.heap.size e A' m c' ys ∧ Ext w w' := Ef.run fun ρ hρ => by
 obtain ⟨ht, i, z, hi, hz, hs, hb, hzs⟩ := hE
 rcases hr with h0 | ⟨b, off, rfl, hc⟩
 ·subst h0; simp at hl; omega
 ·have hrun := run_append_grow (P := P) w t ty e i z ht hi hz ⟨g, 0, none⟩ 0 0 [] (by simp) (fun j v hv => by simp at hv) ⟨b, off, none⟩ m c2 ys (by rw [hs]; omega) (fun j u hu => by rw [Addr.add_plain]; exact hc j u hu) Om Om (growslice_fits Om (by rw [hb, Nat.zero_add]; exact hlen))
  have hge := grownCap_ge w (0 + m) 0 e
  rw [Nat.zero_add] at hrun hge
  refine ⟨_, w.drew.alloc (.cells (([] : List Value).toArray ++ ys.toArray ++ Builtin.zeroCells z.cells (grownCap w m 0 e - m)) e), ⟨_, _, rfl, ⟨by omega, .inr ⟨w.heap.size, _, _, rfl, Nat.le_refl _, heap_alloc_new w.drew _, hge, grownCap_le_maxLen w m 0 e (by unfold maxLen; omega), ?_, ?_⟩⟩, Below.mono (((Below.refl _ w).drew).alloc (by simp) _) (Nat.le_refl _)⟩, fun _ _ _ _ => by simp [execOp, resolve, invoke, builtin, hρ _ _ hx, hρ _ _ hy, hrun]⟩
  ·simp only [Array.size_append, List.size_toArray, size_zeroCells, hzs, List.length_nil, Nat.zero_add, hl]; omega
  ·simp only [Array.toList_append, List.nil_append, Nat.mul_one]
   rw [← hl]; exact List.take_left
end
attribute [local irreducible] Y Ef WL WC WK WQ WM cx WN WF cT WJ gZ WG mR WR qo
open Wire Nd Hk
def vb : Value → Nat
 | .slice (some a) _ _ => a.block
 | _ => 0
def sk (n : Nat) (l : List Value) : Prop := (∀ v ∈ l, ∃ b o n' c, v = .slice (some ⟨b, o, none⟩) n' c ∧ b < n) ∧ (l.map vb).Nodup
theorem sk.mono {n m : Nat} {l : List Value} (h : sk n l) (hm : n ≤ m) : sk m l := ⟨fun v hv => by obtain ⟨b, o, n', c, e, hb⟩ := h.1 v hv; exact ⟨b, o, n', c, e, by omega⟩, h.2⟩
theorem sk.app {n m : Nat} {l : List Value} {b1 b2 b3 o1 o2 o3 n1 n2 n3 c1 c2 c3 : Nat} (h : sk n l) (h1 : n ≤ b1) (h2 : b1 < b2) (h3 : b2 < b3) (h4 : b3 < m) :
  sk m (l ++ [.slice (some ⟨b3, o3, none⟩) n3 c3, .slice (some ⟨b1, o1, none⟩) n1 c1, .slice (some ⟨b2, o2, none⟩) n2 c2]) := by
 refine ⟨fun v hv => ?_, ?_⟩
 ·rcases List.mem_append.1 hv with hv | hv
  ·obtain ⟨b, o, n', c, e, hb⟩ := h.1 v hv; exact ⟨b, o, n', c, e, by omega⟩
  ·simp only [List.mem_cons, List.not_mem_nil, or_false] at hv
   rcases hv with rfl | rfl | rfl
   ·exact ⟨_, _, _, _, rfl, by omega⟩
   ·exact ⟨_, _, _, _, rfl, by omega⟩
   ·exact ⟨_, _, _, _, rfl, by omega⟩
 ·rw [List.map_append, List.nodup_append]
  refine ⟨h.2, ?_, ?_⟩
  ·simp [vb]; omega
  ·intro _ hx _ hy
   obtain ⟨v, hv, rfl⟩ := List.mem_map.1 hx
   obtain ⟨b, o, n', c, rfl, hb⟩ := h.1 v hv
   simp [vb] at hy ⊢
   omega
section
variable (w0 : World) (base g4 g8 g10 : Nat) (ss : Array Value) (I : Hd) (j seed inf : Lb) (gs : List Gs)
structure vW (i : Nat) (A : Oa) (c : Nat) (vals : List Value) (W : World) : Prop where
 bs : base ≤ W.heap.size
 co : ∀ k, k < i → (ll j seed inf gs k).2 = 0
 e : Ext w0 W
 b4 : ao W g4 44 ss
 b8 : ao W g8 25 (cZ aq aq)
 b10 : ao W g10 25 (cZ ⟨A, i, c⟩ I)
 el : dZ e9 3 37 base [g10, g8, g4] W A i c ((List.range i).map fun i => (ll j seed inf gs i).1) vals
 ib : Bx ((Value.slice A i c).ownBlock.toList ++ [g10, g8, g4]) W I inf
 sp : sk W.heap.size (.slice I.A I.n I.c :: vals)
end
section
variable {w0 : World} {base g4 g8 g10 : Nat} {ss : Array Value} {I : Hd} {j seed inf : Lb} {gs : List Gs} {i : Nat} {A : Oa} {c : Nat} {vals : List Value} {W W' : World}
theorem vW.ext (h : vW w0 base g4 g8 g10 ss I j seed inf gs i A c vals W) (x : Ext W W') : vW w0 base g4 g8 g10 ss I j seed inf gs i A c vals W' :=
 ⟨Nat.le_trans h.bs x.size, h.co, h.e.ext x, h.b4.ext x, h.b8.ext x, h.b10.ext x, h.el.ext e9.imp x, h.ib.ext x, h.sp.mono x.size⟩
end
theorem fJ (i : qf) : 0 < (oR i).length := by unfold oR; simp only [List.length_append, gd]; omega
theorem tk {i h0 h1 h2 h4 h5 g y : Hd} {s j : Nat} {v : Value} (h : (dk i h0 h1 h2 s h4 h5 g)[j]? = some v) : (wT i h0 h1 h2 s h4 h5 g y)[j]? = some v := by
 match j with
 | 0 => exact h
 | 1 => exact h
 | 2 => exact h
 | 3 => exact h
 | 4 => exact h
 | 5 => exact h
 | 6 => exact h
 | 7 => exact h
 | j + 8 => rw [Array.getElem?_eq_none (by show 8 ≤ _; omega)] at h; cases h
theorem Gv {pb sd is ts ms : Lb} (h : (sl pb sd is ts ms).2.2 = 0) : (sl pb sd is ts ms).1.length = 32 ∧ 0 < (sl pb sd is ts ms).2.1.length := by
 unfold sl at h ⊢
 split
 ·rename_i h1; rw [if_pos h1] at h; exact absurd h h1
 ·rename_i h1
  exact ⟨sV Om, by show 0 < (Gm.jz _ _ _ _).length; rw [Gm.jD]; omega⟩
theorem IL {w : World} {A : Oa} {n i : Nat} {gs : List Gs} (HG : mI j6 9 w A n gs) (hi : i < n) : ∃ b o y f0 f1 f2 f3 f4 f5 f6 f7, A = some ⟨b, o, none⟩ ∧ gs[i]? = some y ∧ (∀ W', Ext w W' → ∀ j v, (wT f0 f1 f2 f3 y.pk.leaf.src f4 f5 f6 f7)[j]? = some v → W'.cell? ⟨b, o + i * 9 + j, none⟩ = some v) ∧
  nI w f0 y.pk.init ∧ cS w (dk f0 f1 f2 f3 y.pk.leaf.src f4 f5 f6) y.pk ∧ nI w f7 y.way := by
 obtain ⟨b, o, cs, y, e1, _, hx, _, hR, hcx⟩ := HG.Dw Om (i := i) hi
 obtain ⟨f0, f1, f2, f3, f4, f5, f6, f7, rfl, hs, q, q0, q1, q2, q4, q5, r, t⟩ := hR
 exact ⟨b, o, y, f0, f1, f2, f3, f4, f5, f6, f7, e1, hx, fun W' E j v hv => (Below.cell E (dQ (hcx j v hv))).trans (hcx j v hv), q, ⟨f0, f1, f2, f3, f4, f5, f6, rfl, hs, q, q0, q1, q2, q4, q5, r⟩, t⟩
def Gy (base : Nat) (w : World) (cs : Array Value) (x : kX) : Prop := ∃ A n c I vals, cs = cZ ⟨A, n, c⟩ I ∧ dZ e9 3 37 base [] w A n c x.guests vals ∧ Bx (Value.slice A n c).ownBlock.toList w I x.info ∧ I.n ≤ I.c ∧ sk w.heap.size (.slice I.A I.n I.c :: vals)
theorem Gy.ac {base : Nat} {w : World} {cs : Array Value} {x : kX} (h : Gy base w cs x) : lG w cs x := by
 obtain ⟨A, n, c, I, vals, rfl, h1, h2, h3, h4⟩ := h
 obtain ⟨g1, vs, g2, g3, g4⟩ := h1.MD e9.imp
 exact ⟨⟨A, n, c⟩, I, rfl, ⟨g1, vs, g2, g3, fun i x hx => (g4 i x hx).ac⟩, h2.1, h3⟩
theorem uy {ss is : Array Value} {G D : Hd} {ts : List (List UInt8)} {x : qf} {seed : Lb} {gs : List Gs} (w : World) (HS : eW w ss ts) (hj : (ts.getD 0 []).length ≤ 1000) (Xt : (ts.getD 1 []).length ≤ 1000) (HI : iz w is x) (hx : x.ctx.Small) (ht : x.tag.length ≤ 1000) (h6 : x.sig.length ≤ 1000)
  (HG : mI j6 9 w G.A G.n gs) (hs : ∀ x ∈ gs, x.pk.Small ∧ x.way.length ≤ 1000) (HD : nI w D seed) (hD : D.n ≤ 1000) :
  Ct 20 #[.agg ss, .agg is, .slice G.A G.n G.c, .slice D.A D.n D.c] w fun e w' => ∃ cs, e = .returned (.tuple #[.agg cs, .int .i64 ((dI ts x gs seed).2 : Int)]) ∧ lG w' cs (dI ts x gs seed).1 ∧ ((dI ts x gs seed).2 = 0 → Gy w.heap.size w' cs (dI ts x gs seed).1) ∧ Ext w w' := by
 have E := Ext.refl w
 have hgl := HG.1
 have WX := HI
 obtain ⟨i0, i1, i2, i3, i4, rfl, _, _, _, _, _, _, v4⟩ := WX
 have Xu := v4.1
 obtain ⟨J, nj, cj, WD, HJ⟩ := HS.get (i := 0) Om
 obtain ⟨P1, WE, WH, WI, Wj⟩ := HS.get (i := 1) Om
 have lj := HJ.1; have lD := HD.1; have l1 := Wj.1; have lz := Wire.bu i4.n
 refine cV (s := 2) 132 func20 rfl rfl rfl underlying25 rfl Kr rfl ?_
 intro _ hret
 refine aU ?_
 intro _ VI B4 _ ex
 have Xv := B4.lt
 replace E := E.ext ex
 refine aU ?_
 intro _ _ B5 _ ex
 have Xw := B5.lt
 obtain ⟨E,B4⟩ := aY ex E B4
 refine aU ?_
 intro v8 g8 (B8 : ao _ _ _ (cZ aq aq)) Xx ex
 obtain ⟨E,B4,B5⟩ := bC ex E B4 B5
 refine aU ?_
 refine aL func19 rfl (rr _ (HI.ext E)) ?_
 rintro e _ ⟨rfl, ex⟩
 obtain ⟨E,B4,B5,B8⟩ := bU ex E B4 B5 B8
 refine aU ?_
 refine bW rfl (fun Wk => ?_) (fun Wk => ?_)
 ·refine au 2 ?_
  refine ak (aJ rfl (cells := cZ aq aq) Kr) ?_
  refine aU ?_
  intro w2 D8 cg
  replace E := E.aw cg Om; replace B8 := D8.congr (cs' := cZ aq aq) rfl
  refine aU ?_
  refine hret rfl rfl B8 rfl ?_
  have hno : ¬ iB x := by simpa using Wk
  have e1 : dI ts x gs seed = (kX.zero, 3) := by unfold dI; rw [if_pos hno]
  rw [e1]; exact ⟨_, rfl, iO _, fun h => (by cases h), E⟩
 ·have okx : iB x := by simpa using Wk
  refine aU ?_
  refine al rfl (fun WY => ?_) (fun WY => ?_)
  ·refine au 2 ?_
   refine ak (aJ rfl (cells := cZ aq aq) Kr) ?_
   refine aU ?_
   intro w2 D8 cg
   replace E := E.aw cg Om; replace B8 := D8.congr (cs' := cZ aq aq) rfl
   refine aU ?_
   refine hret rfl rfl B8 rfl ?_
   have e1 : dI ts x gs seed = (kX.zero, 6) := by unfold dI; rw [if_neg (fun h => h okx), if_pos Om]
   rw [e1]; exact ⟨_, rfl, iO _, fun h => (by cases h), E⟩
  ·obtain ⟨V, hV⟩ : ∃ V, V = Gm.jz (Kdf.label (ts.getD 1 []) zG.data.toList [] 16) (Kdf.label (ts.getD 1 []) mA.data.toList [] 12) (si x) [] := ⟨_, rfl⟩
   have e1 : dI ts x gs seed = Io (ts.getD 0 []) seed V gs := by unfold dI; rw [if_neg (fun h => h okx), if_neg Om, ← hV]
   have y8 := B8.lt
   refine aU ?_
   intro w5 g10 (Vr : ao _ _ _ (cZ aq aq)) WZ ex
   obtain ⟨E,B4,B5,B8⟩ := bU ex E B4 B5 B8
   have X6 := Ext.refl w5; have b8 := B8
   refine au 3 ?_
   refine et (fun L Wl => ∃ (Wm : Oa) (Vz WO : Nat), L = [(2, .slice G.A G.n G.c), (3, .slice D.A D.n D.c), (4, .pointer (some ⟨VI, 0, none⟩)), (8, .pointer (some ⟨g8, 0, none⟩)), (10, .pointer (some ⟨g10, 0, none⟩)), (11, .slice Wm Vz WO)] ∧ (Ext w5 Wl ∧ Bs Wl Wm Vz (si x) ∧ Vz ≤ 5000)) ?_ ?_
   ·skip
    refine aA Kr 9 rfl ?_; intro Xy ex Xz
    replace X6 := X6.ext ex
    refine my 1 rfl (nZ (o := 0) (s := 7) rfl Tn.u rfl Kr (B5.ext X6) rfl) ?_
    refine zm [4] ?_
    refine Bh 0 2 5 Kr ?_ ?_ ?_
    ·skip
     refine aO rfl (aB (z := .int .u8 0) Tn.u Kr rfl rfl rfl rfl rfl) rfl ?_
     rintro _ Wa ⟨Wb, rfl, Wc, VJ, ex⟩
     refine ⟨.inr ex, ?_⟩
     replace X6 := X6.ext ex
     refine ez 2 5 Kr ?_ ?_
     ·skip
      refine dG rfl func53 rfl rfl rfl (eU _ (HI.ext (E.tr X6)) hx Om) rfl ?_
      rintro e We ⟨Wf, VF, Wg, rfl, VK, VL, ex⟩
      refine aU ?_
      replace X6 := X6.ext ex
      have Vm := VK.bs; have VG := Vm.1
      refine ez 3 5 Kr ?_ ?_
      ·skip
       have VO := X6.size
       refine aO rfl (gN rfl rfl bF Vm.2 (by rw [List.length_map, Vm.1]) (by rw [← VG]; exact fJ _) Om Om) rfl ?_
       rintro _ Vs ⟨VP, VQ, rfl, Vn, ex⟩
       refine ⟨.inl rfl, ?_⟩
       replace X6 := X6.ext ex; (try replace Vl := Vl.ext ex); have VR := ex.size; have Vo := Ext.refl Vs
       refine aM 5 Kr ?_; refine aO rfl ((ah rfl Tn.u rfl ((B5.ext X6).get (i := 6) rfl)).JI) rfl ?_
       rintro _ _ ⟨rfl, rfl, ex⟩
       refine ⟨.inr ex, ?_⟩
       obtain ⟨X6,Vn,Vo⟩ := bC ex X6 Vn Vo
       refine bm 6 rfl func54 rfl (cB _ _ _ _ _ (Bs.ext v4 (E.tr X6)) Om) ?_
       rintro e VS ⟨VT, Vt, VU, rfl, Vu, Vv, ex⟩
       refine aU ?_
       obtain ⟨X6,Vn,Vo⟩ := bC ex X6 Vn Vo
       have Vl := Vu.bs
       have VV := Vo.size
       refine aM 7 Kr ?_; refine aO rfl (aQ rfl rfl bF Vn Vl.2 (by rw [List.length_map, Vl.1]) aH Om Om Om) rfl ?_
       rintro _ VW ⟨Vw, Vx, rfl, Vy, be, gr, hl⟩
       refine ⟨.inl rfl, ?_⟩
       refine zm [8] ?_
       exact bB _ ⟨Vw, VF + Vt, Vx, rfl, X6.trans (be.mono Om), Vy.cat.bs, by omega⟩ Ls
      ·skip
       refine aO rfl ((ah rfl Tn.u rfl ((B5.ext X6).get (i := 6) rfl)).JI) rfl ?_
       rintro _ _ ⟨rfl, rfl, ex⟩
       refine ⟨.inr ex, ?_⟩
       obtain ⟨X6,Vm⟩ := aY ex X6 Vm
       have VO := X6.size
       refine aM 3 Kr ?_; refine aO rfl (gN rfl rfl bF Vm.2 (by rw [List.length_map, Vm.1]) (by rw [← VG]; exact fJ _) Om Om) rfl ?_
       rintro _ Vs ⟨VP, VQ, rfl, Vn, ex⟩
       refine ⟨.inl rfl, ?_⟩
       replace X6 := X6.ext ex; (try replace Vl := Vl.ext ex); have VR := ex.size; have Vo := Ext.refl Vs
       refine bm 6 rfl func54 rfl (cB _ _ _ _ _ (Bs.ext v4 (E.tr X6)) Om) ?_
       rintro e VS ⟨VT, Vt, VU, rfl, Vu, Vv, ex⟩
       refine aU ?_
       obtain ⟨X6,Vn,Vo⟩ := bC ex X6 Vn Vo
       have Vl := Vu.bs
       have VV := Vo.size
       refine aM 7 Kr ?_; refine aO rfl (aQ rfl rfl bF Vn Vl.2 (by rw [List.length_map, Vl.1]) aH Om Om Om) rfl ?_
       rintro _ VW ⟨Vw, Vx, rfl, Vy, be, gr, hl⟩
       refine ⟨.inl rfl, ?_⟩
       refine zm [8] ?_
       exact bB _ ⟨Vw, VF + Vt, Vx, rfl, X6.trans (be.mono Om), Vy.cat.bs, by omega⟩ Ls
     ·skip
      refine aO rfl ((ah rfl Tn.u rfl ((B5.ext X6).get (i := 6) rfl)).JI) rfl ?_
      rintro _ _ ⟨rfl, rfl, ex⟩
      refine ⟨.inr ex, ?_⟩
      replace X6 := X6.ext ex
      refine bm 2 rfl func53 rfl (eU _ (HI.ext (E.tr X6)) hx Om) ?_
      rintro e We ⟨Wf, VF, Wg, rfl, VK, VL, ex⟩
      refine aU ?_
      replace X6 := X6.ext ex
      have Vm := VK.bs; have VG := Vm.1
      have VO := X6.size
      refine aM 3 Kr ?_; refine aO rfl (gN rfl rfl bF Vm.2 (by rw [List.length_map, Vm.1]) (by rw [← VG]; exact fJ _) Om Om) rfl ?_
      rintro _ Vs ⟨VP, VQ, rfl, Vn, ex⟩
      refine ⟨.inl rfl, ?_⟩
      replace X6 := X6.ext ex; (try replace Vl := Vl.ext ex); have VR := ex.size; have Vo := Ext.refl Vs
      refine bm 6 rfl func54 rfl (cB _ _ _ _ _ (Bs.ext v4 (E.tr X6)) Om) ?_
      rintro e VS ⟨VT, Vt, VU, rfl, Vu, Vv, ex⟩
      refine aU ?_
      obtain ⟨X6,Vn,Vo⟩ := bC ex X6 Vn Vo
      have Vl := Vu.bs
      have VV := Vo.size
      refine aM 7 Kr ?_; refine aO rfl (aQ rfl rfl bF Vn Vl.2 (by rw [List.length_map, Vl.1]) aH Om Om Om) rfl ?_
      rintro _ VW ⟨Vw, Vx, rfl, Vy, be, gr, hl⟩
      refine ⟨.inl rfl, ?_⟩
      refine zm [8] ?_
      exact bB _ ⟨Vw, VF + Vt, Vx, rfl, X6.trans (be.mono Om), Vy.cat.bs, by omega⟩ Ls
    ·skip
     refine dG rfl func53 rfl rfl rfl (eU _ (HI.ext (E.tr X6)) hx Om) rfl ?_
     rintro e We ⟨Wf, VF, Wg, rfl, VK, VL, ex⟩
     refine aU ?_
     replace X6 := X6.ext ex
     have Vm := VK.bs; have VG := Vm.1
     refine ez 0 5 Kr ?_ ?_
     ·skip
      refine aO rfl (aB (z := .int .u8 0) Tn.u Kr rfl rfl rfl rfl rfl) rfl ?_
      rintro _ Wa ⟨Wb, rfl, Wc, VJ, ex⟩
      refine ⟨.inr ex, ?_⟩
      obtain ⟨X6,Vm⟩ := aY ex X6 Vm
      refine ez 3 5 Kr ?_ ?_
      ·skip
       have VO := X6.size
       refine aO rfl (gN rfl rfl bF Vm.2 (by rw [List.length_map, Vm.1]) (by rw [← VG]; exact fJ _) Om Om) rfl ?_
       rintro _ Vs ⟨VP, VQ, rfl, Vn, ex⟩
       refine ⟨.inl rfl, ?_⟩
       replace X6 := X6.ext ex; (try replace Vl := Vl.ext ex); have VR := ex.size; have Vo := Ext.refl Vs
       refine aM 5 Kr ?_; refine aO rfl ((ah rfl Tn.u rfl ((B5.ext X6).get (i := 6) rfl)).JI) rfl ?_
       rintro _ _ ⟨rfl, rfl, ex⟩
       refine ⟨.inr ex, ?_⟩
       obtain ⟨X6,Vn,Vo⟩ := bC ex X6 Vn Vo
       refine bm 6 rfl func54 rfl (cB _ _ _ _ _ (Bs.ext v4 (E.tr X6)) Om) ?_
       rintro e VS ⟨VT, Vt, VU, rfl, Vu, Vv, ex⟩
       refine aU ?_
       obtain ⟨X6,Vn,Vo⟩ := bC ex X6 Vn Vo
       have Vl := Vu.bs
       have VV := Vo.size
       refine aM 7 Kr ?_; refine aO rfl (aQ rfl rfl bF Vn Vl.2 (by rw [List.length_map, Vl.1]) aH Om Om Om) rfl ?_
       rintro _ VW ⟨Vw, Vx, rfl, Vy, be, gr, hl⟩
       refine ⟨.inl rfl, ?_⟩
       refine zm [8] ?_
       exact bB _ ⟨Vw, VF + Vt, Vx, rfl, X6.trans (be.mono Om), Vy.cat.bs, by omega⟩ Ls
      ·skip
       refine aO rfl ((ah rfl Tn.u rfl ((B5.ext X6).get (i := 6) rfl)).JI) rfl ?_
       rintro _ _ ⟨rfl, rfl, ex⟩
       refine ⟨.inr ex, ?_⟩
       obtain ⟨X6,Vm⟩ := aY ex X6 Vm
       have VO := X6.size
       refine aM 3 Kr ?_; refine aO rfl (gN rfl rfl bF Vm.2 (by rw [List.length_map, Vm.1]) (by rw [← VG]; exact fJ _) Om Om) rfl ?_
       rintro _ Vs ⟨VP, VQ, rfl, Vn, ex⟩
       refine ⟨.inl rfl, ?_⟩
       replace X6 := X6.ext ex; (try replace Vl := Vl.ext ex); have VR := ex.size; have Vo := Ext.refl Vs
       refine bm 6 rfl func54 rfl (cB _ _ _ _ _ (Bs.ext v4 (E.tr X6)) Om) ?_
       rintro e VS ⟨VT, Vt, VU, rfl, Vu, Vv, ex⟩
       refine aU ?_
       obtain ⟨X6,Vn,Vo⟩ := bC ex X6 Vn Vo
       have Vl := Vu.bs
       have VV := Vo.size
       refine aM 7 Kr ?_; refine aO rfl (aQ rfl rfl bF Vn Vl.2 (by rw [List.length_map, Vl.1]) aH Om Om Om) rfl ?_
       rintro _ VW ⟨Vw, Vx, rfl, Vy, be, gr, hl⟩
       refine ⟨.inl rfl, ?_⟩
       refine zm [8] ?_
       exact bB _ ⟨Vw, VF + Vt, Vx, rfl, X6.trans (be.mono Om), Vy.cat.bs, by omega⟩ Ls
     ·skip
      refine aO rfl ((ah rfl Tn.u rfl ((B5.ext X6).get (i := 6) rfl)).JI) rfl ?_
      rintro _ _ ⟨rfl, rfl, ex⟩
      refine ⟨.inr ex, ?_⟩
      obtain ⟨X6,Vm⟩ := aY ex X6 Vm
      refine aM 0 Kr ?_; refine aO rfl (aB (z := .int .u8 0) Tn.u Kr rfl rfl rfl rfl rfl) rfl ?_
      rintro _ Wa ⟨Wb, rfl, Wc, VJ, ex⟩
      refine ⟨.inr ex, ?_⟩
      obtain ⟨X6,Vm⟩ := aY ex X6 Vm
      have VO := X6.size
      refine aM 3 Kr ?_; refine aO rfl (gN rfl rfl bF Vm.2 (by rw [List.length_map, Vm.1]) (by rw [← VG]; exact fJ _) Om Om) rfl ?_
      rintro _ Vs ⟨VP, VQ, rfl, Vn, ex⟩
      refine ⟨.inl rfl, ?_⟩
      replace X6 := X6.ext ex; (try replace Vl := Vl.ext ex); have VR := ex.size; have Vo := Ext.refl Vs
      refine bm 6 rfl func54 rfl (cB _ _ _ _ _ (Bs.ext v4 (E.tr X6)) Om) ?_
      rintro e VS ⟨VT, Vt, VU, rfl, Vu, Vv, ex⟩
      refine aU ?_
      obtain ⟨X6,Vn,Vo⟩ := bC ex X6 Vn Vo
      have Vl := Vu.bs
      have VV := Vo.size
      refine aM 7 Kr ?_; refine aO rfl (aQ rfl rfl bF Vn Vl.2 (by rw [List.length_map, Vl.1]) aH Om Om Om) rfl ?_
      rintro _ VW ⟨Vw, Vx, rfl, Vy, be, gr, hl⟩
      refine ⟨.inl rfl, ?_⟩
      refine zm [8] ?_
      exact bB _ ⟨Vw, VF + Vt, Vx, rfl, X6.trans (be.mono Om), Vy.cat.bs, by omega⟩ Ls
    ·skip
     refine aO rfl ((ah rfl Tn.u rfl ((B5.ext X6).get (i := 6) rfl)).JI) rfl ?_
     rintro _ _ ⟨rfl, rfl, ex⟩
     refine ⟨.inr ex, ?_⟩
     replace X6 := X6.ext ex
     refine ez 0 2 Kr ?_ ?_
     ·skip
      refine aO rfl (aB (z := .int .u8 0) Tn.u Kr rfl rfl rfl rfl rfl) rfl ?_
      rintro _ Wa ⟨Wb, rfl, Wc, VJ, ex⟩
      refine ⟨.inr ex, ?_⟩
      replace X6 := X6.ext ex
      refine bm 2 rfl func53 rfl (eU _ (HI.ext (E.tr X6)) hx Om) ?_
      rintro e We ⟨Wf, VF, Wg, rfl, VK, VL, ex⟩
      refine aU ?_
      replace X6 := X6.ext ex
      have Vm := VK.bs; have VG := Vm.1
      have VO := X6.size
      refine aM 3 Kr ?_; refine aO rfl (gN rfl rfl bF Vm.2 (by rw [List.length_map, Vm.1]) (by rw [← VG]; exact fJ _) Om Om) rfl ?_
      rintro _ Vs ⟨VP, VQ, rfl, Vn, ex⟩
      refine ⟨.inl rfl, ?_⟩
      replace X6 := X6.ext ex; (try replace Vl := Vl.ext ex); have VR := ex.size; have Vo := Ext.refl Vs
      refine bm 6 rfl func54 rfl (cB _ _ _ _ _ (Bs.ext v4 (E.tr X6)) Om) ?_
      rintro e VS ⟨VT, Vt, VU, rfl, Vu, Vv, ex⟩
      refine aU ?_
      obtain ⟨X6,Vn,Vo⟩ := bC ex X6 Vn Vo
      have Vl := Vu.bs
      have VV := Vo.size
      refine aM 7 Kr ?_; refine aO rfl (aQ rfl rfl bF Vn Vl.2 (by rw [List.length_map, Vl.1]) aH Om Om Om) rfl ?_
      rintro _ VW ⟨Vw, Vx, rfl, Vy, be, gr, hl⟩
      refine ⟨.inl rfl, ?_⟩
      refine zm [8] ?_
      exact bB _ ⟨Vw, VF + Vt, Vx, rfl, X6.trans (be.mono Om), Vy.cat.bs, by omega⟩ Ls
     ·skip
      refine dG rfl func53 rfl rfl rfl (eU _ (HI.ext (E.tr X6)) hx Om) rfl ?_
      rintro e We ⟨Wf, VF, Wg, rfl, VK, VL, ex⟩
      refine aU ?_
      replace X6 := X6.ext ex
      have Vm := VK.bs; have VG := Vm.1
      refine aM 0 Kr ?_; refine aO rfl (aB (z := .int .u8 0) Tn.u Kr rfl rfl rfl rfl rfl) rfl ?_
      rintro _ Wa ⟨Wb, rfl, Wc, VJ, ex⟩
      refine ⟨.inr ex, ?_⟩
      obtain ⟨X6,Vm⟩ := aY ex X6 Vm
      have VO := X6.size
      refine aM 3 Kr ?_; refine aO rfl (gN rfl rfl bF Vm.2 (by rw [List.length_map, Vm.1]) (by rw [← VG]; exact fJ _) Om Om) rfl ?_
      rintro _ Vs ⟨VP, VQ, rfl, Vn, ex⟩
      refine ⟨.inl rfl, ?_⟩
      replace X6 := X6.ext ex; (try replace Vl := Vl.ext ex); have VR := ex.size; have Vo := Ext.refl Vs
      refine bm 6 rfl func54 rfl (cB _ _ _ _ _ (Bs.ext v4 (E.tr X6)) Om) ?_
      rintro e VS ⟨VT, Vt, VU, rfl, Vu, Vv, ex⟩
      refine aU ?_
      obtain ⟨X6,Vn,Vo⟩ := bC ex X6 Vn Vo
      have Vl := Vu.bs
      have VV := Vo.size
      refine aM 7 Kr ?_; refine aO rfl (aQ rfl rfl bF Vn Vl.2 (by rw [List.length_map, Vl.1]) aH Om Om Om) rfl ?_
      rintro _ VW ⟨Vw, Vx, rfl, Vy, be, gr, hl⟩
      refine ⟨.inl rfl, ?_⟩
      refine zm [8] ?_
      exact bB _ ⟨Vw, VF + Vt, Vx, rfl, X6.trans (be.mono Om), Vy.cat.bs, by omega⟩ Ls
   rintro L Wl ⟨Wm, Vz, WO, rfl, X6, VX, _⟩
   obtain ⟨E,B4,B8,Vr⟩ := bU X6 E B4 B8 Vr
   refine aU ?_
   refine aA Kr 13 rfl ?_; intro XC ex XD
   obtain ⟨E,B4,B8,Vr,VX⟩ := gQ ex E B4 B8 Vr VX
   refine zm [0] ?_
   refine my 1 rfl (ah rfl Tn.u rfl (B4.get WI)) ?_
   refine zm [3] ?_
   refine my 4 rfl (ah rfl Tn.u rfl (B4.get WI)) ?_
   refine zm [6] ?_
   refine bm 2 rfl func47 rfl (je P1 none WE WH 0 0 16 zG (ts.getD 1 []) [] _ (Wj.ext E) Om (by decide) (Bs.nil _ _) Om Om) ?_
   rintro e _ ⟨_, _, rfl, Wn, ex⟩
   obtain ⟨E,B4,B8,Vr,VX⟩ := gQ ex E B4 B8 Vr VX
   refine aU ?_
   refine bm 5 rfl func47 rfl (je P1 none WE WH 0 0 12 mA (ts.getD 1 []) [] _ (Wj.ext E) Om (by decide) (Bs.nil _ _) Om Om) ?_
   rintro e _ ⟨_, _, rfl, W3, ex⟩
   obtain ⟨E,B4,B8,Vr,VX,Wn⟩ := gL ex E B4 B8 Vr VX Wn
   refine aU ?_
   have XE := Vr.lt; have XF := B8.lt; have XG := B4.lt
   refine bm 7 rfl func55 rfl (mT _ Wn W3 VX Om (Bs.nil _ _) Om Om) ?_
   rintro e _ ⟨VM, VN, rfl, VY, ex⟩
   refine au 1 ?_
   obtain ⟨E,B4,B8,Vr⟩ := bU ex E B4 B8 Vr
   rw [← hV] at VY; have Wo := VY.bn.2
   refine zm [8, 9, 10, 11] ?_
   refine aM 12 Kr ?_; refine aO rfl (az (i := 1) rfl rfl rfl Kr Vr Nb) rfl ?_
   rintro _ VA ⟨rfl, Wq, cg⟩
   refine ⟨.inl rfl, ?_⟩
   replace E := E.aw cg Om; replace B8 := B8.aw cg Om; replace B4 := B4.aw cg Om; replace VY := VY.aw cg (by intro b o e; have := Wo b o e; omega); replace Vr := Wq.congr (cs' := cZ aq ⟨VM, Vz + 16, VN⟩) rfl
   refine aU ?_
   obtain ⟨XH, XI, WS, W4, _⟩ := VY.bs.get (k := 0) Om
   have XJ := Wo _ _ WS
   have X : vW w VA.heap.size VI g8 g10 ss ⟨VM, Vz + 16, VN⟩ (ts.getD 0 []) seed V gs 0 none 0 [] VA := ⟨Nat.le_refl _, fun k h => (by cases h), E, B4, B8, Vr, dZ.empty _ _ _ _ _ _, ⟨VY.bs, fun _ b o e hm => by have := Wo b o e; simp [Value.ownBlock] at hm; rcases hm with h | h | h <;> omega⟩, ⟨fun v hv => by simp at hv; subst hv; rw [WS]; exact ⟨_, _, _, _, rfl, W4⟩, by simp⟩⟩
   have W5 := Vr.lt; have n8 := B8.lt; have n4 := B4.lt; have z7 := E.size; have Wr := VY.cap
   refine aF (fun n' L wr => ∃ (i : Nat) (A : Oa) (c : Nat) (vals : List Value), L = [(2, .slice G.A G.n G.c), (3, .slice D.A D.n D.c), (4, .pointer (some ⟨VI, 0, none⟩)), (8, .pointer (some ⟨g8, 0, none⟩)), (10, .pointer (some ⟨g10, 0, none⟩)), (12, .int .i64 (i : Int))] ∧ n' = G.n - i ∧ (i ≤ G.n ∧ vW w VA.heap.size VI g8 g10 ss ⟨VM, Vz + 16, VN⟩ (ts.getD 0 []) seed V gs i A c vals wr)) _ _ ⟨0, none, 0, [], rfl, rfl, Nat.zero_le _, X⟩ Ls ?_
   rintro _ n' L wr ⟨i, A, c, vals, rfl, rfl, _, X⟩ W6
   refine aU ?_
   refine al rfl (fun W9 => ?_) (fun W9 => ?_)
   ·skip
    obtain ⟨b, o, y, f0, f1, f2, f3, f4, f5, f6, f7, hA, hxy, hcx, Hq, HP, HY⟩ := IL HG (i := i) Om
    obtain ⟨hys, hyw⟩ := hs y (List.mem_of_getElem? hxy)
    have ew : ll (ts.getD 0 []) seed V gs i = hO (ts.getD 0 []) seed V i y := by unfold ll; rw [show gs.getD i ⟨Pack.zero, []⟩ = y from by rw [List.getD_eq_getElem?_getD, hxy]; rfl]
    have lq := Hq.1; have lY := HY.1; have XK := hys.1
    refine au 6 ?_
    refine et (fun L V1 => ∃ (qq : Bool), L = [(2, .slice G.A G.n G.c), (3, .slice D.A D.n D.c), (4, .pointer (some ⟨VI, 0, none⟩)), (8, .pointer (some ⟨g8, 0, none⟩)), (10, .pointer (some ⟨g10, 0, none⟩)), (12, .int .i64 (i : Int)), (81, .bool qq)] ∧ (qq = decide (¬ df y.pk ∨ ¬ ky (ts.getD 0 []) y.way) ∧ vW w VA.heap.size VI g8 g10 ss ⟨VM, Vz + 16, VN⟩ (ts.getD 0 []) seed V gs i A c vals V1)) ?_ ?_
    ·refine au 3 ?_
     refine ak (dV (s := 9) (j := i) hA rfl rfl Tn.u Kr rfl Om) ?_
     refine au 1 ?_
     refine ak (dH (cs := dk f0 f1 f2 f3 y.pk.leaf.src f4 f5 f6) rfl Tn.u rfl Kr fun j v hv => by rw [Addr.add_plain]; exact hcx _ X.e j v (tk hv)) ?_
     refine aL func10 rfl (yI _ (HP.ext X.e)) ?_
     rintro e _ ⟨rfl, ex⟩
     replace X := X.ext ex
     refine au 1 ?_
     refine ic (kz rfl) rfl (fun q0 => ?_) (fun q0 => ?_)
     ·refine aU ?_
      refine ck 72 rfl rfl rfl ?_
      refine ck 72 rfl rfl rfl ?_
      refine ck 72 rfl rfl rfl ?_
      refine ck 72 rfl rfl rfl ?_
      refine ck 72 rfl rfl rfl ?_
      refine ck 72 rfl rfl rfl ?_
      refine ck 72 rfl rfl rfl ?_
      refine aU ?_
      exact bB _ ⟨true, rfl, (decide_eq_true (.inl (by simpa using q0))).symm, X⟩ Ls
     ·refine au 2 ?_
      refine kH 58 (ah rfl Tn.u rfl (X.b4.get WD)) ?_
      refine au 1 ?_
      refine aG 58 rfl rfl (jr rfl rfl) rfl (fun q1 => ?_) (fun q1 => ?_)
      ·refine aU ?_
       refine ck 72 rfl rfl rfl ?_
       refine ck 72 rfl rfl rfl ?_
       refine ck 72 rfl rfl rfl ?_
       refine ck 72 rfl rfl rfl ?_
       refine ck 72 rfl rfl rfl ?_
       refine ck 72 rfl rfl rfl ?_
       refine ck 72 rfl rfl rfl ?_
       refine aU ?_
       exact bB _ ⟨true, rfl, (decide_eq_true (.inr fun h => by have := h.1; omega)).symm, X⟩ Ls
      ·refine au 4 ?_
       refine kH 64 (dV (s := 9) (j := i) hA rfl rfl Tn.u Kr rfl Om) ?_
       refine au 1 ?_
       refine kH 64 (ah rfl Tn.u rfl (hcx _ X.e 8 _ rfl)) ?_
       refine au 1 ?_
       refine aG 64 rfl rfl (jr rfl rfl) rfl (fun q2 => ?_) (fun q2 => ?_)
       ·refine au 3 ?_
        refine kH 72 (dV (s := 9) (j := i) hA rfl rfl Tn.u Kr rfl Om) ?_
        refine au 1 ?_
        refine kH 72 (ah rfl Tn.u rfl (hcx _ X.e 8 _ rfl)) ?_
        refine au 1 ?_
        refine aG 72 rfl rfl (jr rfl rfl) rfl (fun q3 => ?_) (fun q3 => ?_)
        ·refine aU ?_
         exact bB _ ⟨true, rfl, (decide_eq_true (.inr fun h => by rcases h.2 with h | h <;> omega)).symm, X⟩ Ls
        ·refine aU ?_
         exact bB _ ⟨false, rfl, (decide_eq_false (fun h => h.elim (fun h => h (by simpa using q0)) (fun h => h ⟨by omega, .inr Om⟩))).symm, X⟩ Ls
       ·refine aU ?_
        exact bB _ ⟨false, rfl, (decide_eq_false (fun h => h.elim (fun h => h (by simpa using q0)) (fun h => h ⟨by omega, .inl Om⟩))).symm, X⟩ Ls
    rintro L V1 ⟨qq, rfl, hqq, X⟩
    refine aU ?_
    refine bW rfl (fun V2 => ?_) (fun V2 => ?_)
    ·rw [hqq] at V2
     have hno := of_decide_eq_true V2
     have WT : ll (ts.getD 0 []) seed V gs i = (kM.zero, 3) := by rw [ew]; unfold hO; rw [if_pos hno]
     have e2 := sf Om X.co (show (ll (ts.getD 0 []) seed V gs i).2 ≠ 0 by rw [WT]; decide)
     rw [WT] at e2
     refine au 2 ?_
     refine ak (aJ rfl (cells := cZ aq aq) Kr) ?_
     refine af (bA (o := 0) rfl rfl Kr X.b8 Nb (bf rfl)) rfl ?_
     rintro _ _ ⟨rfl, D8, cg⟩
     have Xa := X.e.aw cg Om; replace D8 := D8.congr (cs' := cZ aq aq) rfl
     refine aU ?_
     refine hret rfl rfl D8 rfl ?_
     rw [e1, e2]; exact ⟨_, rfl, iO _, fun h => (by cases h), Xa⟩
    ·rw [hqq] at V2
     have hok := of_decide_eq_false V2
     have Wh : ll (ts.getD 0 []) seed V gs i = (⟨lB y.pk, (ma (ts.getD 0 []) seed V i y).1, (ma (ts.getD 0 []) seed V i y).2.1⟩, (ma (ts.getD 0 []) seed V i y).2.2) := by rw [ew]; unfold hO; rw [if_neg hok]
     have WU := yk y.pk.init (sn seed i) (Hk.info tX V) (gW (ts.getD 0 []) y.way) []
     refine aU ?_
     refine aL func56 rfl (gz 4 i _ Om Om) ?_
     rintro e _ ⟨Xb, Xc, rfl, Xd, ex⟩
     refine aU ?_
     replace X := X.ext ex
     have Xe := Xd.bs
     refine aL func47 rfl (je D.A Xb D.n D.c 4 Xc 32 vX seed _ _ (Bs.ext HD X.e) Om (by decide) Xe Om Om) ?_
     rintro e _ ⟨WV, Xf, rfl, VZ, ex⟩
     replace X := X.ext ex
     replace VZ : Bs _ WV 32 (sn seed i) := VZ
     refine aU ?_
     refine aA Kr 25 rfl ?_; intro Xg ex Xh
     obtain ⟨X,VZ⟩ := aY ex X VZ
     refine zm [0, 1] ?_
     refine my 2 rfl (dV (s := 9) (j := i) hA rfl rfl Tn.u Kr rfl Om) ?_
     refine zm [3, 4] ?_
     refine my 5 rfl (ah rfl Tn.u rfl (hcx _ X.e 0 _ rfl)) ?_
     refine zm [6, 7] ?_
     refine my 8 rfl (ah rfl Tn.u rfl (X.b10.get (i := 1) rfl)) ?_
     refine zm [9] ?_
     refine my 10 rfl (ah rfl Tn.u rfl (X.b4.get WD)) ?_
     refine zm [11, 12] ?_
     refine my 13 rfl (dV (s := 9) (j := i) hA rfl rfl Tn.u Kr rfl Om) ?_
     refine zm [14] ?_
     refine my 15 rfl (ah rfl Tn.u rfl (hcx _ X.e 8 _ rfl)) ?_
     refine bm 16 rfl func58 rfl (lJ _ (HJ.ext X.e) (Bs.ext HY X.e) Om Om) ?_
     rintro e _ ⟨Ws, Wv, Ww, rfl, Wx, _, ex⟩
     refine aU ?_
     obtain ⟨X,VZ⟩ := aY ex X VZ
     have Wy := Wx.bs
     have Wz := X.sp; have hown := fun g hg => (X.el.2.1.ka (m := i) g hg); have Xi := Nat.lt_of_lt_of_le W5 X.bs; have Xj := Nat.lt_of_lt_of_le n8 X.bs; have Xk := Nat.lt_of_lt_of_le n4 X.bs
     refine bm 17 rfl func57 rfl (pj f0.A WV VM Ws tX f0.n f0.c 32 Xf (Vz + 16) VN Wv Ww y.pk.init (sn seed i) V (gW (ts.getD 0 []) y.way) _ rq (Bs.ext Hq X.e) Om VZ Om X.ib.1 Om Wy Om) ?_
     rintro e _ ⟨_, VB, VC, _, VD, VE, rfl, Vq, Vp, _, _, Xl, t8, ex⟩
     replace X := X.ext ex
     refine zm [18, 19, 20, 21, 22, 23, 24] ?_
     refine al rfl (fun WA => ?_) (fun WA => ?_)
     ·refine au 2 ?_
      refine ak (aJ rfl (cells := cZ aq aq) Kr) ?_
      refine au 2 ?_
      refine af (bA (o := 0) rfl rfl Kr X.b8 Nb (bf rfl)) rfl ?_
      rintro _ _ ⟨rfl, D8, cg⟩
      have Xm := X.e.aw cg Om; replace D8 := D8.congr (cs' := cZ aq aq) rfl
      refine aU ?_
      refine hret rfl rfl D8 rfl ?_
      have e2 := sf Om X.co (show (ll (ts.getD 0 []) seed V gs i).2 ≠ 0 by rw [Wh]; intro h; exact WA (by rw [show (sl y.pk.init (sn seed i) (Hk.info tX V) (gW (ts.getD 0 []) y.way) []).2.2 = 0 from h]; rfl))
      rw [Wh] at e2
      rw [e1, e2]; exact ⟨_, rfl, iO _, fun h => absurd (show (sl y.pk.init (sn seed i) (Hk.info tX V) (gW (ts.getD 0 []) y.way) []).2.2 = 0 from h) (fun h => WA (by rw [h]; rfl)), Xm⟩
     ·refine aU ?_
      have WW : (sl y.pk.init (sn seed i) (Hk.info tX V) (gW (ts.getD 0 []) y.way) []).2.2 = 0 := by omega
      obtain ⟨s1, s2⟩ := Gv WW
      obtain ⟨b7, o7, rfl, m7, _⟩ := Vq.get (k := 0) (by have := Vq.1; omega)
      obtain ⟨b8, o8, rfl, m8, _⟩ := Vp.get (k := 0) (by have := Vp.1; omega)
      have t81 := t8.1 _ _ rfl
      have t82 := (t8.2 _ _ rfl).2 _ _ rfl
      refine aA Kr 16 rfl ?_; intro Xn ex Xo
      obtain ⟨X,Vq,Vp⟩ := bC ex X Vq Vp
      refine zm [0] ?_
      refine my 1 rfl (ah rfl Tn.u rfl (X.b10.get (i := 0) rfl)) ?_
      refine zm [2, 3] ?_
      refine cU 4 rfl (fun _ => dV (s := 9) (j := i) hA rfl rfl Tn.u Kr rfl Om) ?_
      refine zm [5] ?_
      refine my 6 rfl (dH (cs := dk f0 f1 f2 f3 y.pk.leaf.src f4 f5 f6) rfl Tn.u rfl Kr fun j v hv => by rw [Addr.add_plain]; exact hcx _ X.e j v (tk hv)) ?_
      refine zm [8, 9] ?_
      refine cU 10 rfl (fun _ => aJ rfl (cells := cZ ⟨some ⟨b7, o7, none⟩, VB, VC⟩ ⟨some ⟨b8, o8, none⟩, VD, VE⟩) Kr) ?_
      have Xp := Bs.IW Vp (by have := Vp.1; omega)
      refine bm 7 rfl func11 rfl (oL _ (HP.ext X.e) hys) ?_
      rintro e _ ⟨_, VH, rfl, V4, ex⟩
      refine aU ?_
      obtain ⟨X,Vq,Vp⟩ := bC ex X Vq Vp
      obtain ⟨b9, _, rfl, _⟩ := V4.get (i := 0) Om; have V0 := V4.bs
      refine cU 11 rfl (fun _ => aJ rfl (cells := dw ⟨some ⟨b9, 0, none⟩, 32, VH⟩ ⟨some ⟨b7, o7, none⟩, VB, VC⟩ ⟨some ⟨b8, o8, none⟩, VD, VE⟩) Kr) ?_
      have Xq := X.e.size; have zb := X.bs
      refine aM 12 Kr ?_; refine aO rfl (nX (cells := dw ⟨some ⟨b9, 0, none⟩, 32, VH⟩ ⟨some ⟨b7, o7, none⟩, VB, VC⟩ ⟨some ⟨b8, o8, none⟩, VD, VE⟩) Tn.u rfl Kr) rfl ?_
      rintro _ V5 ⟨_, rfl, Xr, _, ex⟩
      refine ⟨.inr ex, ?_⟩
      obtain ⟨X,Vq,Vp,V0⟩ := bU ex X Vq Vp V0
      have Xs := ex.size
      refine aM 13 Kr ?_; refine aO rfl (oq (A := A) (n := i) (c := c) rfl rfl yf X.el.2.1 Xr rfl (bf rfl) Om Om Om) rfl ?_
      rintro _ _ ⟨A4, c4, rfl, R4, Wi, hgl⟩
      refine ⟨.inl rfl, ?_⟩
      have C4 := aX.BX Wi; have y4 := C4.size
      refine zm [14] ?_
      refine aM 15 Kr ?_; refine aO rfl (az (i := 0) rfl rfl rfl Kr (X.b10.bT C4 (fun hm => by have := hown _ hm; omega)) Nb) rfl ?_
      rintro _ V6 ⟨rfl, Wq, cg⟩
      refine ⟨.inl rfl, ?_⟩
      have hno : ∀ {b : Nat}, b < VA.heap.size → b ∉ (Value.slice A i c).ownBlock.toList := fun hb hm => by have := hown _ hm; omega
      have hx : e9 (Bx ((Value.slice A i c).ownBlock.toList ++ [g10, g8, VI]) V5) (dw ⟨some ⟨b9, 0, none⟩, 32, VH⟩ ⟨some ⟨b7, o7, none⟩, VB, VC⟩ ⟨some ⟨b8, o8, none⟩, VD, VE⟩) (ll (ts.getD 0 []) seed V gs i).1 := by
       have hn : ∀ {b : Nat}, b7 ≤ b → b ∉ (Value.slice A i c).ownBlock.toList ++ [g10, g8, VI] := fun hb hm => by
        rcases List.mem_append.1 hm with h | h
        ·have := hown _ h; omega
        ·simp at h; rcases h with h | h | h <;> omega
       rw [Wh]
       exact ⟨_, _, _, rfl, ⟨V0, fun _ b o e => by injection e with e; injection e with e _ _; exact hn Om⟩, ⟨Vq, fun _ b o e => by injection e with e; injection e with e _ _; exact hn Om⟩, ⟨Vp, fun _ b o e => by injection e with e; injection e with e _ _; exact hn Om⟩, Xl⟩
      have XX : vW w VA.heap.size VI g8 g10 ss ⟨VM, Vz + 16, VN⟩ (ts.getD 0 []) seed V gs (i + 1) A4 c4 (vals ++ (dw ⟨some ⟨b9, 0, none⟩, 32, VH⟩ ⟨some ⟨b7, o7, none⟩, VB, VC⟩ ⟨some ⟨b8, o8, none⟩, VD, VE⟩).toList) V6 := by
       refine ⟨Nat.le_trans X.bs (Nat.le_trans y4 cg.size), fun k hk => ?_, (Below.grown X.e Wi Om (fun k e => by have := hown k (by rw [e]; simp); omega)).aw cg Om, (X.b4.bT C4 (hno n4)).aw cg Om, (X.b8.bT C4 (hno n8)).aw cg Om, Wq, ?_, (X.ib.grown Wi hgl).bT (aX.one cg) (by simp), sk.app Wz t81 t82 Om (by have := cg.size; omega)⟩
       ·rcases Nat.lt_or_ge k i with h | h
        ·exact X.co k h
        ·obtain rfl : k = i := by omega
         rw [Wh]; exact WW
       ·rw [List.range_succ, List.map_append]
        exact (X.el.app e9.imp hx rfl R4 Wi hgl).bT e9.imp (aX.one cg) (by simp) So
      refine au 9 ?_
      refine ae ?_
      refine W6 _ _ ⟨i + 1, A4, c4, vals ++ (dw ⟨some ⟨b9, 0, none⟩, 32, VH⟩ ⟨some ⟨b7, o7, none⟩, VB, VC⟩ ⟨some ⟨b8, o8, none⟩, VD, VE⟩).toList, rfl, rfl, by omega, XX⟩ Om Ls
   ·refine au 7 ?_
    refine ak (aV rfl Tn.u rfl Kr X.b10) ?_
    refine af (bA (o := 0) rfl rfl Kr X.b8 Nb (bf rfl)) rfl ?_
    rintro _ WB ⟨rfl, D8, cg⟩
    replace D8 := D8.congr (cs' := cZ ⟨A, i, c⟩ ⟨VM, Vz + 16, VN⟩) rfl
    refine aU ?_
    refine hret rfl rfl D8 rfl ?_
    have hn : i = gs.length := by omega
    have e2 := AT (j := ts.getD 0 []) (seed := seed) (inf := V) (gs := gs) (fun k hk => X.co k Om)
    have hS : Gy w.heap.size WB (cZ ⟨A, i, c⟩ ⟨VM, Vz + 16, VN⟩) ⟨(List.range gs.length).map fun i => (ll (ts.getD 0 []) seed V gs i).1, V⟩ := by
     rw [← hn]
     have h1 := (X.el.bT e9.imp (aX.one cg) (by simp) So).re e9.imp (T := []) (by simp)
     exact ⟨A, i, c, ⟨VM, Vz + 16, VN⟩, vals, rfl, ⟨h1.1, h1.2.1.lower z7, h1.2.2⟩, (X.ib.bT (aX.one cg) (by simp)).re (fun g hg => .inl (List.mem_append_left _ hg)), Wr, X.sp.mono cg.size⟩
    rw [e1, e2]; exact ⟨_, rfl, hS.ac, fun _ => hS, X.e.aw cg Om⟩
end Go.Proofs.YtgfafidlkldeaaaGreat
