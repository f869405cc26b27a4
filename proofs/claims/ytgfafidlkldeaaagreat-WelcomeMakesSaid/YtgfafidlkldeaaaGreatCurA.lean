/- Points of the curve as the program holds them: sums, nothing, flat; bytes held against bytes. Points of the curve as the program holds them: the base, sums, turned about, told apart, bytes, whether right. Points of bytes; the layer's alive. -/
import Derived.Test.YtgfafidlkldeaaaGreatDhA
import Derived.Test.YtgfafidlkldeaaaGreatVs
import Derived.Test.YtgfafidlkldeaaaGreatAu
set_option linter.unusedVariables false
set_option linter.unusedSimpArgs false
set_option maxHeartbeats 4000000
set_option maxRecDepth 4000
namespace Go.Proofs.YtgfafidlkldeaaaGreat
section
open Go.RowKit Tryz
section
attribute [local irreducible] Y Ef WL WC WK WQ WM cx WN WF cT
def pc (f1 f2 f3 f4 : Nat → Nat) (b : Bool) : Array Value := fe f1 ++ fe f2 ++ fe f3 ++ fe f4 ++ #[.bool b]
theorem bz (f1 f2 f3 f4 : Nat → Nat) (b : Bool) : (pc f1 f2 f3 f4 b).size = 21 := by simp [pc, ai]
theorem iI (f1 f2 f3 f4 : Nat → Nat) (b : Bool) : (pc f1 f2 f3 f4 b).all (·.oneCell') = true := by
 unfold pc
 rw [Array.all_append, Array.all_append, Array.all_append, Array.all_append, bh, bh, bh, bh]; simp [Value.oneCell']
theorem ke {a b : Array Value} {j : Nat} {v : Value} (h : a[j]? = some v) : (a ++ b)[j]? = some v := by
 rw [Array.getElem?_append_left (Array.getElem?_eq_some_iff.1 h).1]; exact h
theorem xZ {a b : Array Value} {j k : Nat} {v : Value} (hk : a.size = k) (h : b[j]? = some v) : (a ++ b)[k + j]? = some v := by
 subst hk; rw [Array.getElem?_append_right Om, Nat.add_sub_cancel_left]; exact h
theorem Ny (f1 f2 f3 f4 : Nat → Nat) (b : Bool) (j : Nat) (v : Value) (h : (fe f1)[j]? = some v) : (pc f1 f2 f3 f4 b)[0 + j]? = some v := by
 rw [Nat.zero_add]; exact ke (ke (ke (ke h)))
theorem Na (f1 f2 f3 f4 : Nat → Nat) (b : Bool) (j : Nat) (v : Value) (h : (fe f2)[j]? = some v) : (pc f1 f2 f3 f4 b)[5 + j]? = some v :=
 ke (ke (ke (xZ (ai _) h)))
theorem MU (f1 f2 f3 f4 : Nat → Nat) (b : Bool) (j : Nat) (v : Value) (h : (fe f3)[j]? = some v) : (pc f1 f2 f3 f4 b)[10 + j]? = some v :=
 ke (ke (xZ (by simp [ai]) h))
theorem NC (f1 f2 f3 f4 : Nat → Nat) (b : Bool) (j : Nat) (v : Value) (h : (fe f4)[j]? = some v) : (pc f1 f2 f3 f4 b)[15 + j]? = some v :=
 ke (xZ (by simp [ai]) h)
theorem Mb (f1 f2 f3 f4 : Nat → Nat) (b : Bool) : (pc f1 f2 f3 f4 b)[20]? = some (.bool b) :=
 xZ (j := 0) (k := 20) (by simp [ai]) rfl
section
variable {L : List (Nat × Value)} {w : World} {ty e : TypeId} {x : Operand} {g : Nat} {f1 f2 f3 f4 : Nat → Nat} {b : Bool}
theorem Gw (hx : ev L x = some (.pointer (some ⟨g, 0, none⟩))) (B : ao w g e (pc f1 f2 f3 f4 b)) : Y Tryz.prog L w (.load 136 x) ty (.agg (pc f1 f2 f3 f4 b)) := aV hx underlying136 rfl (by rw [bz]; kernel_rfl) B
theorem DG (hx : ev L x = some (.pointer (some ⟨g, 0, none⟩))) (B : ao w g e (pc f1 f2 f3 f4 b)) : Y Tryz.prog L w (.load 134 x) ty (.agg (fe f1)) :=
 dH hx underlying134 rfl (by rw [ai]; kernel_rfl) fun j v hv => by rw [Addr.add_plain, B.cell]; exact Ny _ _ _ _ _ j v hv
theorem De (hx : ev L x = some (.pointer (some ⟨g, 5, none⟩))) (B : ao w g e (pc f1 f2 f3 f4 b)) : Y Tryz.prog L w (.load 134 x) ty (.agg (fe f2)) :=
 dH hx underlying134 rfl (by rw [ai]; kernel_rfl) fun j v hv => by rw [Addr.add_plain, B.cell]; exact Na _ _ _ _ _ j v hv
theorem EM (hx : ev L x = some (.pointer (some ⟨g, 10, none⟩))) (B : ao w g e (pc f1 f2 f3 f4 b)) : Y Tryz.prog L w (.load 134 x) ty (.agg (fe f3)) :=
 dH hx underlying134 rfl (by rw [ai]; kernel_rfl) fun j v hv => by rw [Addr.add_plain, B.cell]; exact MU _ _ _ _ _ j v hv
theorem Mm (hx : ev L x = some (.pointer (some ⟨g, 15, none⟩))) (B : ao w g e (pc f1 f2 f3 f4 b)) : Y Tryz.prog L w (.load 134 x) ty (.agg (fe f4)) :=
 dH hx underlying134 rfl (by rw [ai]; kernel_rfl) fun j v hv => by rw [Addr.add_plain, B.cell]; exact NC _ _ _ _ _ j v hv
end
def PT (cs : Array Value) (P : Fp.F × Fp.F) : Prop := ∃ f1 f2 f3 f4 q, cs = pc f1 f2 f3 f4 true ∧ FE (fe f1) q.x ∧ FE (fe f2) q.y ∧ FE (fe f3) q.z ∧ FE (fe f4) q.t ∧ Ed.oA q P
def PP (cs : Array Value) (P : Fp.F × Fp.F) : Prop := PT cs P ∨ ∃ f1 f2 f3 f4, cs = pc f1 f2 f3 f4 false ∧ P = Ed.O
theorem PT.size {cs : Array Value} {P : Fp.F × Fp.F} (h : PT cs P) : cs.size = 21 := by obtain ⟨f1, f2, f3, f4, q, rfl, _⟩ := h; exact bz _ _ _ _ _
theorem PT.one {cs : Array Value} {P : Fp.F × Fp.F} (h : PT cs P) : cs.all (·.oneCell') = true := by obtain ⟨f1, f2, f3, f4, q, rfl, _⟩ := h; exact iI _ _ _ _ _
def zf : Nat → Nat := fun _ => 0
theorem xU {f1 f2 : Nat → Nat} {x y : Fp.F} (X : FE (fe f1) x) (Yy : FE (fe f2) y) (w : World) :
  Ct 147 #[.agg (fe f1), .agg (fe f2)] w fun e w' => ∃ cs, e = .returned (.agg cs) ∧ PT cs (x, y) ∧ Ext w w' := by
 have E := Ext.refl w
 refine aI (s := 21) 12 func147 rfl rfl rfl underlying136 rfl Kr rfl ?_
 intro _ hret
 refine aU ?_
 intro w1 g2 (B2 : ao _ _ _ (fe f1)) Vl ex
 replace E := E.ext ex
 refine aU ?_
 intro w2 g3 (B3 : ao _ _ _ (fe f2)) Vm ex
 obtain ⟨E,B2⟩ := aY ex E B2
 have hz := E.size
 refine aU ?_
 intro w3 g4 (B4 : ao _ _ _ (pc zf zf zf zf false)) Vn ex
 obtain ⟨E,B2,B3⟩ := bC ex E B2 B3
 refine aU ?_
 refine aA Kr 8 rfl ?_; intro Vo ex Vp
 obtain ⟨E,B2,B3,B4⟩ := bU ex E B2 B3 B4
 refine my 0 rfl (cN rfl B2) ?_
 refine my 1 rfl (cN rfl B3) ?_
 refine my 3 rfl (cN rfl B2) ?_
 refine my 4 rfl (cN rfl B3) ?_
 refine bm 2 rfl func143 rfl (cP 1 _ Om) ?_
 rintro e _ ⟨_, rfl, F5, ex⟩
 refine aU ?_
 obtain ⟨E,B4⟩ := aY ex E B4
 obtain ⟨f5, rfl, F5⟩ := F5.fe
 refine bm 5 rfl func144 rfl (bE X Yy _) ?_
 rintro e _ ⟨_, rfl, F6, ex⟩
 refine aU ?_
 obtain ⟨E,B4⟩ := aY ex E B4
 obtain ⟨f6, rfl, F6⟩ := F6.fe
 refine cU 6 rfl (fun _ => aJ rfl (cells := pc f1 f2 f5 f6 true) Kr) ?_
 refine aM 7 Kr ?_; refine aO rfl (ag rfl rfl (by rw [bz]; kernel_rfl) B4 (by rw [bz, bz]) (iI _ _ _ _ _)) rfl ?_
 rintro _ _ ⟨rfl, B7, cg⟩
 refine ⟨.inl rfl, ?_⟩
 replace E := E.aw cg Om
 refine aU ?_
 refine hret rfl B7 (bz _ _ _ _ _) ?_
 exact ⟨_, rfl, ⟨f1, f2, f5, f6, Ed.M9 (x, y), rfl, X, Yy, F5, F6, Ed.IU _⟩, E⟩
theorem vL (w : World) : Ct 150 #[] w fun e w' => ∃ f, e = .returned (.agg (fe f)) ∧ FE (fe f) Ed.d ∧ Ext w w' := by
 have E := Ext.refl w
 have hd : (-(Fp.of 121665)) * Fp.inv (Fp.of 121666) = Ed.d := (Ed.sh Ed.MJ Ed.LH.symm).symm
 refine aI (s := 5) 6 func150 rfl rfl rfl underlying134 rfl Kr rfl ?_
 intro _ hret
 refine aU ?_
 intro w1 g0 (B0 : ao _ _ _ (fe zf)) Vl ex
 replace E := E.ext ex
 refine aU ?_
 refine aL func143 rfl (cP 121665 _ Om) ?_
 rintro e _ ⟨_, rfl, F2, ex⟩
 obtain ⟨E,B0⟩ := aY ex E B0
 refine aU ?_
 refine aL func208 rfl (gD F2 _) ?_
 rintro e _ ⟨_, rfl, F3, ex⟩
 obtain ⟨E,B0⟩ := aY ex E B0
 refine aU ?_
 refine aL func143 rfl (cP 121666 _ Om) ?_
 rintro e _ ⟨_, rfl, F4, ex⟩
 obtain ⟨E,B0⟩ := aY ex E B0
 refine aU ?_
 refine aL func145 rfl (ir F4 _) ?_
 rintro e _ ⟨_, rfl, F5, ex⟩
 obtain ⟨E,B0⟩ := aY ex E B0
 refine aU ?_
 refine aL func144 rfl (bE F3 F5 _) ?_
 rintro e _ ⟨_, rfl, F6, ex⟩
 refine au 1 ?_
 obtain ⟨E,B0⟩ := aY ex E B0
 rw [hd] at F6; obtain ⟨f6, rfl, F6⟩ := F6.fe
 refine af (ag rfl rfl (by rw [ai]; kernel_rfl) B0 (by rw [ai, ai]) (bh _)) rfl ?_
 rintro _ _ ⟨rfl, B7, cg⟩
 replace E := E.aw cg Vl
 refine aU ?_
 refine hret rfl B7 (ai _) ?_
 exact ⟨f6, rfl, F6, E⟩
section
variable {P : Program} {ops : Array Oper} {Q : Exit → Act → World → Prop} {N : Nd} {L : List (Nat × Value)} {w w0 : World}
theorem CW {f g k l : Fl} {n : Nat} {listed : Array Bool} (ok : mF P ops w0 [f, g, k, l] listed N L) (hr : oH ops (dC listed [f, g, k, l]) [f.i, g.i, k.i, l.i] = true)
    (h : ∀ v u x y w1, Ext w w1 → vN w0 f v w1 → vN w0 g u w1 → vN w0 k x w1 → vN w0 l y w1 → Km v u → Km v x → Km v y → Km u x → Km u y → Km x y → WN P ops Q w0 n (dC listed [f, g, k, l]) N ((f.d, v) :: (g.d, u) :: (k.d, x) :: (l.d, y) :: L) w1) : WF P ops Q w0 [f, g, k, l] n listed N L w :=
  rI ok (sX hr) fun st w1 hst hu hx hR hap => by
    match st, hst, hu, hR, hap with
    | [(f', o1), (g', o2), (k', o3), (l', o4)], hst, hu, hR, hap =>
      simp only [List.map_cons, List.map_nil, List.cons.injEq, and_true] at hst
      obtain ⟨rfl, rfl, rfl, rfl⟩ := hst
      obtain ⟨v, hv⟩ := jO hu (f', o1) (by simp)
      obtain ⟨u, Vl⟩ := jO hu (g', o2) (by simp)
      obtain ⟨x, Vm⟩ := jO hu (k', o3) (by simp)
      obtain ⟨y, Vn⟩ := jO hu (l', o4) (by simp)
      simp only at hv Vl Vm Vn
      subst hv; subst Vl; subst Vm; subst Vn
      exact h v u x y w1 hx (hR (f', some v) (by simp) v rfl) (hR (g', some u) (by simp) u rfl) (hR (k', some x) (by simp) x rfl) (hR (l', some y) (by simp) y rfl) (fun b h1 h2 => hap.1 (g', some u) (by simp) v u b rfl rfl h1 h2) (fun b h1 h2 => hap.1 (k', some x) (by simp) v x b rfl rfl h1 h2) (fun b h1 h2 => hap.1 (l', some y) (by simp) v y b rfl rfl h1 h2) (fun b h1 h2 => hap.2.1 (k', some x) (by simp) u x b rfl rfl h1 h2) (fun b h1 h2 => hap.2.1 (l', some y) (by simp) u y b rfl rfl h1 h2) (fun b h1 h2 => hap.2.2.1 (l', some y) (by simp) x y b rfl rfl h1 h2)
end
theorem sZ {p1 p2 p3 p4 q1 q2 q3 q4 fd : Nat → Nat} {p q : Ed.Q4} {P Q : Fp.F × Fp.F} (P1 : FE (fe p1) p.x) (P2 : FE (fe p2) p.y) (P3 : FE (fe p3) p.z) (P4 : FE (fe p4) p.t) (Q1 : FE (fe q1) q.x) (Q2 : FE (fe q2) q.y) (Q3 : FE (fe q3) q.z) (Q4 : FE (fe q4) q.t)
  (D : FE (fe fd) (Ed.d + Ed.d)) (hp : Ed.oA p P) (hq : Ed.oA q Q) (oP : Ed.On P) (oQ : Ed.On Q) (b c : Bool) (w : World) :
  Ct 152 #[.agg (pc p1 p2 p3 p4 b), .agg (pc q1 q2 q3 q4 c), .agg (fe fd)] w fun e w' => ∃ cs, e = .returned (.agg cs) ∧ PT cs (Ed.add P Q) ∧ Ext w w' := by
 have E := Ext.refl w
 refine aI (s := 21) 77 func152 rfl rfl rfl underlying136 rfl Kr rfl ?_
 intro Q hret
 refine aU ?_
 intro w1 g3 (B3 : ao _ _ _ (pc p1 p2 p3 p4 b)) Wb ex
 replace E := E.ext ex
 refine aU ?_
 intro w2 g4 (B4 : ao _ _ _ (pc q1 q2 q3 q4 c)) Wc ex
 obtain ⟨E,B3⟩ := aY ex E B3
 refine aU ?_
 intro w3 g5 (B5 : ao _ _ _ (fe fd)) We ex
 obtain ⟨E,B3,B4⟩ := bC ex E B3 B4
 have hz := E.size
 refine aU ?_
 intro w4 g6 (B6 : ao _ _ _ (pc zf zf zf zf false)) Wf ex
 obtain ⟨E,B3,B4,B5⟩ := bU ex E B3 B4 B5
 have V2 : w.heap.size ≤ g6 := by omega
 refine aU ?_
 refine dc Kr 13 rfl ?_; intro V0 ex Wg
 obtain ⟨E,B3,B4,B5,B6⟩ := gQ ex E B3 B4 B5 B6
 have VE := E
 have Vn := B3
 have Vp := B4
 have VF := B5
 have Vq := B6
 have X0 := Ext.refl V0
 refine zm [0] ?_
 refine cR 1 rfl Kr (De rfl Vn) rfl ?_
 refine zm [2] ?_
 refine cR 3 rfl Kr (DG rfl Vn) rfl ?_
 refine zm [5] ?_
 refine cR 6 rfl Kr (De rfl Vp) rfl ?_
 refine zm [7] ?_
 refine cR 8 rfl Kr (DG rfl Vp) rfl ?_
 refine dd (fl := [nT 11 7 134 (fe zf)]) rfl ?_
 refine jj 4 (some 19) func206 ?_
 intro _ ex exb
 obtain ⟨E,B3,B4,B5,B6,X0⟩ := gL ex E B3 B4 B5 B6 X0
 refine ⟨_, (eQ P2 P1 _), ?_⟩
 rintro e _ ⟨c1, rfl, F1, ex⟩
 refine ⟨_, rfl, ex, ?_⟩
 obtain ⟨E,B3,B4,B5,B6,X0⟩ := gL ex E B3 B4 B5 B6 X0
 obtain ⟨f1, rfl, F1⟩ := F1.fe
 refine jj 9 (some 24) func206 ?_
 intro _ ex exb
 obtain ⟨E,B3,B4,B5,B6,X0⟩ := gL ex E B3 B4 B5 B6 X0
 refine ⟨_, (eQ Q2 Q1 _), ?_⟩
 rintro e _ ⟨c2, rfl, F2, ex⟩
 refine ⟨_, rfl, ex, ?_⟩
 obtain ⟨E,B3,B4,B5,B6,X0⟩ := gL ex E B3 B4 B5 B6 X0
 obtain ⟨f2, rfl, F2⟩ := F2.fe
 refine jj 10 (some 25) func144 ?_
 intro _ ex exb
 obtain ⟨E,B3,B4,B5,B6,X0⟩ := gL ex E B3 B4 B5 B6 X0
 refine ⟨_, (bE F1 F2 _), ?_⟩
 rintro e _ ⟨c3, rfl, FA, ex⟩
 refine ⟨_, rfl, ex, ?_⟩
 obtain ⟨E,B3,B4,B5,B6,X0⟩ := gL ex E B3 B4 B5 B6 X0
 obtain ⟨fa, rfl, FA⟩ := FA.fe
 refine ie ⟨(aS (bw rfl Kr) av), of_decide_eq_true rfl, of_decide_eq_true rfl, (aS (⟨rfl, of_decide_eq_true rfl⟩) av), (aS (aR Kr) av)⟩ Kr ?_
 rintro _ _ ex ⟨⟨g7, rfl, Vl⟩, VX⟩
 replace VX := VX g7 rfl
 obtain ⟨E,B3,B4,B5,B6,X0⟩ := gL ex E B3 B4 B5 B6 X0
 refine cL 12 Kr ?_
 refine dx rfl (ag rfl rfl (by rw [ai]; kernel_rfl) Vl (by rw [ai, ai]) (bh _)) rfl ?_
 rintro _ _ ⟨rfl, Vl, cg⟩
 replace X0 := X0.aw cg VX
 refine ⟨X0, ?_⟩
 replace E := VE.ext X0
 replace B3 := Vn.ext X0
 replace B4 := Vp.ext X0
 replace B5 := VF.ext X0
 replace B6 := Vq.ext X0
 refine dA Kr ?_
 refine aU ?_
 refine dc Kr 13 rfl ?_; intro V1 ex Wh
 obtain ⟨E,B3,B4,B5,B6,Vl⟩ := gL ex E B3 B4 B5 B6 Vl
 have VE := E
 have Vn := B3
 have Vp := B4
 have VF := B5
 have Vq := B6
 have Vo := Vl
 have X0 := Ext.refl V1
 refine zm [0] ?_
 refine cR 1 rfl Kr (De rfl Vn) rfl ?_
 refine zm [2] ?_
 refine cR 3 rfl Kr (DG rfl Vn) rfl ?_
 refine zm [5] ?_
 refine cR 6 rfl Kr (De rfl Vp) rfl ?_
 refine zm [7] ?_
 refine cR 8 rfl Kr (DG rfl Vp) rfl ?_
 refine dd (fl := [nT 11 8 134 (fe zf)]) rfl ?_
 refine jj 4 (some 30) func151 ?_
 intro _ ex exb
 obtain ⟨E,B3,B4,B5,B6,Vl,X0⟩ := gY ex E B3 B4 B5 B6 Vl X0
 refine ⟨_, (dK P2 P1 _), ?_⟩
 rintro e _ ⟨c1, rfl, F3, ex⟩
 refine ⟨_, rfl, ex, ?_⟩
 obtain ⟨E,B3,B4,B5,B6,Vl,X0⟩ := gY ex E B3 B4 B5 B6 Vl X0
 obtain ⟨f3, rfl, F3⟩ := F3.fe
 refine jj 9 (some 35) func151 ?_
 intro _ ex exb
 obtain ⟨E,B3,B4,B5,B6,Vl,X0⟩ := gY ex E B3 B4 B5 B6 Vl X0
 refine ⟨_, (dK Q2 Q1 _), ?_⟩
 rintro e _ ⟨c2, rfl, F4, ex⟩
 refine ⟨_, rfl, ex, ?_⟩
 obtain ⟨E,B3,B4,B5,B6,Vl,X0⟩ := gY ex E B3 B4 B5 B6 Vl X0
 obtain ⟨f4, rfl, F4⟩ := F4.fe
 refine jj 10 (some 36) func144 ?_
 intro _ ex exb
 obtain ⟨E,B3,B4,B5,B6,Vl,X0⟩ := gY ex E B3 B4 B5 B6 Vl X0
 refine ⟨_, (bE F3 F4 _), ?_⟩
 rintro e _ ⟨c3, rfl, FB, ex⟩
 refine ⟨_, rfl, ex, ?_⟩
 obtain ⟨E,B3,B4,B5,B6,Vl,X0⟩ := gY ex E B3 B4 B5 B6 Vl X0
 obtain ⟨fb, rfl, FB⟩ := FB.fe
 refine ie ⟨(aS (bw rfl Kr) av), of_decide_eq_true rfl, of_decide_eq_true rfl, (aS (⟨rfl, of_decide_eq_true rfl⟩) av), (aS (aR Kr) av)⟩ Kr ?_
 rintro _ _ ex ⟨⟨g8, rfl, Vm⟩, VY⟩
 replace VY := VY g8 rfl
 obtain ⟨E,B3,B4,B5,B6,Vl,X0⟩ := gY ex E B3 B4 B5 B6 Vl X0
 refine cL 12 Kr ?_
 refine dx rfl (ag rfl rfl (by rw [ai]; kernel_rfl) Vm (by rw [ai, ai]) (bh _)) rfl ?_
 rintro _ _ ⟨rfl, Vm, cg⟩
 replace X0 := X0.aw cg VY
 refine ⟨X0, ?_⟩
 replace E := VE.ext X0
 replace B3 := Vn.ext X0
 replace B4 := Vp.ext X0
 replace B5 := VF.ext X0
 replace B6 := Vq.ext X0
 replace Vl := Vo.ext X0
 refine dA Kr ?_
 refine aU ?_
 refine dc Kr 9 rfl ?_; intro V4 ex Wi
 obtain ⟨E,B3,B4,B5,B6,Vl,Vm⟩ := gY ex E B3 B4 B5 B6 Vl Vm
 have VE := E
 have Vn := B3
 have Vp := B4
 have VF := B5
 have Vq := B6
 have Vo := Vl
 have Vv := Vm
 have X0 := Ext.refl V4
 refine zm [0] ?_
 refine cR 1 rfl Kr (Mm rfl Vn) rfl ?_
 refine cR 2 rfl Kr (cN rfl VF) rfl ?_
 refine zm [4] ?_
 refine cR 5 rfl Kr (Mm rfl Vp) rfl ?_
 refine dd (fl := [nT 7 9 134 (fe zf)]) rfl ?_
 refine jj 3 (some 40) func144 ?_
 intro _ ex exb
 obtain ⟨E,B3,B4,B6,Vl,Vm,X0⟩ := gY ex E B3 B4 B6 Vl Vm X0
 refine ⟨_, (bE P4 D _), ?_⟩
 rintro e _ ⟨c1, rfl, F5, ex⟩
 refine ⟨_, rfl, ex, ?_⟩
 obtain ⟨E,B3,B4,B6,Vl,Vm,X0⟩ := gY ex E B3 B4 B6 Vl Vm X0
 obtain ⟨f5, rfl, F5⟩ := F5.fe
 refine jj 6 (some 43) func144 ?_
 intro _ ex exb
 obtain ⟨E,B3,B4,B6,Vl,Vm,X0⟩ := gY ex E B3 B4 B6 Vl Vm X0
 refine ⟨_, (bE F5 Q4 _), ?_⟩
 rintro e _ ⟨c2, rfl, FC, ex⟩
 refine ⟨_, rfl, ex, ?_⟩
 obtain ⟨E,B3,B4,B6,Vl,Vm,X0⟩ := gY ex E B3 B4 B6 Vl Vm X0
 obtain ⟨fc, rfl, FC⟩ := FC.fe
 refine ie ⟨(aS (bw rfl Kr) av), of_decide_eq_true rfl, of_decide_eq_true rfl, (aS (⟨rfl, of_decide_eq_true rfl⟩) av), (aS (aR Kr) av)⟩ Kr ?_
 rintro _ _ ex ⟨⟨g9, rfl, Vw⟩, VZ⟩
 replace VZ := VZ g9 rfl
 obtain ⟨E,B3,B4,B6,Vl,Vm,X0⟩ := gY ex E B3 B4 B6 Vl Vm X0
 refine cL 8 Kr ?_
 refine dx rfl (ag rfl rfl (by rw [ai]; kernel_rfl) Vw (by rw [ai, ai]) (bh _)) rfl ?_
 rintro _ _ ⟨rfl, Vw, cg⟩
 replace X0 := X0.aw cg VZ
 refine ⟨X0, ?_⟩
 replace E := VE.ext X0
 replace B3 := Vn.ext X0
 replace B4 := Vp.ext X0
 replace B6 := Vq.ext X0
 replace Vl := Vo.ext X0
 replace Vm := Vv.ext X0
 refine dA Kr ?_
 refine aU ?_
 refine dc Kr 10 rfl ?_; intro V5 ex Wj
 obtain ⟨E,B3,B4,B6,Vl,Vm,Vw⟩ := gY ex E B3 B4 B6 Vl Vm Vw
 have VE := E
 have Vn := B3
 have Vp := B4
 have Vq := B6
 have Vo := Vl
 have Vv := Vm
 have VD := Vw
 have X0 := Ext.refl V5
 refine zm [0] ?_
 refine cR 1 rfl Kr (EM rfl Vn) rfl ?_
 refine zm [2] ?_
 refine cR 3 rfl Kr (EM rfl Vn) rfl ?_
 refine zm [5] ?_
 refine cR 6 rfl Kr (EM rfl Vp) rfl ?_
 refine dd (fl := [nT 8 10 134 (fe zf)]) rfl ?_
 refine jj 4 (some 48) func151 ?_
 intro _ ex exb
 obtain ⟨E,B6,Vl,Vm,Vw,X0⟩ := gL ex E B6 Vl Vm Vw X0
 refine ⟨_, (dK P3 P3 _), ?_⟩
 rintro e V0 ⟨c1, rfl, F6, ex⟩
 refine ⟨_, rfl, ex, ?_⟩
 obtain ⟨E,B6,Vl,Vm,Vw,X0⟩ := gL ex E B6 Vl Vm Vw X0
 obtain ⟨f6, rfl, F6⟩ := F6.fe
 refine jj 7 (some 51) func144 ?_
 intro _ ex exb
 obtain ⟨E,B6,Vl,Vm,Vw,X0⟩ := gL ex E B6 Vl Vm Vw X0
 refine ⟨_, (bE F6 Q3 _), ?_⟩
 rintro e V1 ⟨c2, rfl, FEE, ex⟩
 refine ⟨_, rfl, ex, ?_⟩
 obtain ⟨E,B6,Vl,Vm,Vw,X0⟩ := gL ex E B6 Vl Vm Vw X0
 obtain ⟨fee, rfl, FEE⟩ := FEE.fe
 refine ie ⟨(aS (bw rfl Kr) av), of_decide_eq_true rfl, of_decide_eq_true rfl, (aS (⟨rfl, of_decide_eq_true rfl⟩) av), (aS (aR Kr) av)⟩ Kr ?_
 rintro _ _ ex ⟨⟨V6, rfl, VG⟩, VI⟩
 replace VI := VI V6 rfl
 obtain ⟨E,B6,Vl,Vm,Vw,X0⟩ := gL ex E B6 Vl Vm Vw X0
 refine cL 9 Kr ?_
 refine dx rfl (ag rfl rfl (by rw [ai]; kernel_rfl) VG (by rw [ai, ai]) (bh _)) rfl ?_
 rintro _ _ ⟨rfl, VG, cg⟩
 replace X0 := X0.aw cg VI
 refine ⟨X0, ?_⟩
 replace E := VE.ext X0
 replace B6 := Vq.ext X0
 replace Vl := Vo.ext X0
 replace Vm := Vv.ext X0
 replace Vw := VD.ext X0
 refine dA Kr ?_
 refine aU ?_
 refine dc Kr 20 rfl ?_; intro Wa ex Wk
 obtain ⟨E,B6,Vl,Vm,Vw,VG⟩ := gL ex E B6 Vl Vm Vw VG
 have VE := E
 have Vq := B6
 have Vo := Vl
 have Vv := Vm
 have VD := Vw
 have VH := VG
 have X0 := Ext.refl Wa
 refine cR 0 rfl Kr (cN rfl Vv) rfl ?_
 refine cR 1 rfl Kr (cN rfl Vo) rfl ?_
 refine cR 3 rfl Kr (cN rfl VH) rfl ?_
 refine cR 4 rfl Kr (cN rfl VD) rfl ?_
 refine cR 6 rfl Kr (cN rfl VH) rfl ?_
 refine cR 7 rfl Kr (cN rfl VD) rfl ?_
 refine cR 9 rfl Kr (cN rfl Vv) rfl ?_
 refine cR 10 rfl Kr (cN rfl Vo) rfl ?_
 refine dd (fl := [nT 12 11 134 (fe zf), nT 13 12 134 (fe zf), nT 14 13 134 (fe zf), nT 15 14 134 (fe zf)]) rfl ?_
 refine jj 2 (some 54) func206 ?_
 intro _ ex exb
 obtain ⟨E,B6,X0⟩ := bC ex E B6 X0
 refine ⟨_, (eQ FB FA _), ?_⟩
 rintro e _ ⟨c1, rfl, FF, ex⟩
 refine ⟨_, rfl, ex, ?_⟩
 obtain ⟨E,B6,X0⟩ := bC ex E B6 X0
 obtain ⟨ff, rfl, FF⟩ := FF.fe
 refine jj 5 (some 57) func206 ?_
 intro _ ex exb
 obtain ⟨E,B6,X0⟩ := bC ex E B6 X0
 refine ⟨_, (eQ FEE FC _), ?_⟩
 rintro e _ ⟨c2, rfl, FG, ex⟩
 refine ⟨_, rfl, ex, ?_⟩
 obtain ⟨E,B6,X0⟩ := bC ex E B6 X0
 obtain ⟨fg, rfl, FG⟩ := FG.fe
 refine jj 8 (some 60) func151 ?_
 intro _ ex exb
 obtain ⟨E,B6,X0⟩ := bC ex E B6 X0
 refine ⟨_, (dK FEE FC _), ?_⟩
 rintro e _ ⟨c3, rfl, FH, ex⟩
 refine ⟨_, rfl, ex, ?_⟩
 obtain ⟨E,B6,X0⟩ := bC ex E B6 X0
 obtain ⟨fh, rfl, FH⟩ := FH.fe
 refine jj 11 (some 63) func151 ?_
 intro _ ex exb
 obtain ⟨E,B6,X0⟩ := bC ex E B6 X0
 refine ⟨_, (dK FB FA _), ?_⟩
 rintro e _ ⟨c4, rfl, FI, ex⟩
 refine ⟨_, rfl, ex, ?_⟩
 obtain ⟨E,B6,X0⟩ := bC ex E B6 X0
 obtain ⟨fi, rfl, FI⟩ := FI.fe
 refine CW ⟨(aS (bw rfl Kr) (aS (bw rfl Kr) (aS (bw rfl Kr) (aS (bw rfl Kr) av)))), of_decide_eq_true rfl, of_decide_eq_true rfl, (aS (⟨rfl, of_decide_eq_true rfl⟩) (aS (⟨rfl, of_decide_eq_true rfl⟩) (aS (⟨rfl, of_decide_eq_true rfl⟩) (aS (⟨rfl, of_decide_eq_true rfl⟩) av)))), (aS (aR Kr) (aS (aR Kr) (aS (aR Kr) (aS (aR Kr) av))))⟩ Kr ?_
 rintro _ _ _ _ _ ex ⟨⟨VJ, rfl, Vr⟩, VK⟩ ⟨⟨VO, rfl, Vs⟩, VL⟩ ⟨⟨VV, rfl, Vt⟩, VM⟩ ⟨⟨VW, rfl, Vu⟩, VN⟩ Vx Vy Vz VA VB VC
 replace VK := VK VJ rfl
 replace VL := VL VO rfl
 replace VM := VM VV rfl
 replace VN := VN VW rfl
 have VP : VJ ≠ VO := fun e => Vx VJ rfl (by rw [e]; rfl)
 have VQ : VJ ≠ VV := fun e => Vy VJ rfl (by rw [e]; rfl)
 have VR : VJ ≠ VW := fun e => Vz VJ rfl (by rw [e]; rfl)
 have VS : VO ≠ VV := fun e => VA VO rfl (by rw [e]; rfl)
 have VT : VO ≠ VW := fun e => VB VO rfl (by rw [e]; rfl)
 have VU : VV ≠ VW := fun e => VC VV rfl (by rw [e]; rfl)
 obtain ⟨E,B6,X0⟩ := bC ex E B6 X0
 refine cL 16 Kr ?_
 refine dx rfl (ag rfl rfl (by rw [ai]; kernel_rfl) Vr (by rw [ai, ai]) (bh _)) rfl ?_
 rintro _ _ ⟨rfl, Vr, cg⟩
 replace X0 := X0.aw cg VK
 refine ⟨X0, ?_⟩
 replace E := VE.ext X0
 replace B6 := Vq.ext X0
 replace Vs := Vs.aw cg Om
 replace Vt := Vt.aw cg Om
 replace Vu := Vu.aw cg Om
 refine cL 17 Kr ?_
 refine dx rfl (ag rfl rfl (by rw [ai]; kernel_rfl) Vs (by rw [ai, ai]) (bh _)) rfl ?_
 rintro _ _ ⟨rfl, Vs, cg⟩
 replace X0 := X0.aw cg VL
 refine ⟨X0, ?_⟩
 replace E := VE.ext X0
 replace B6 := Vq.ext X0
 replace Vr := Vr.aw cg Om
 replace Vt := Vt.aw cg Om
 replace Vu := Vu.aw cg Om
 refine cL 18 Kr ?_
 refine dx rfl (ag rfl rfl (by rw [ai]; kernel_rfl) Vt (by rw [ai, ai]) (bh _)) rfl ?_
 rintro _ _ ⟨rfl, Vt, cg⟩
 replace X0 := X0.aw cg VM
 refine ⟨X0, ?_⟩
 replace E := VE.ext X0
 replace B6 := Vq.ext X0
 replace Vr := Vr.aw cg Om
 replace Vs := Vs.aw cg Om
 replace Vu := Vu.aw cg Om
 refine cL 19 Kr ?_
 refine dx rfl (ag rfl rfl (by rw [ai]; kernel_rfl) Vu (by rw [ai, ai]) (bh _)) rfl ?_
 rintro _ _ ⟨rfl, Vu, cg⟩
 replace X0 := X0.aw cg VN
 refine ⟨X0, ?_⟩
 replace E := VE.ext X0
 replace B6 := Vq.ext X0
 replace Vr := Vr.aw cg Om
 replace Vs := Vs.aw cg Om
 replace Vt := Vt.aw cg Om
 refine dA Kr ?_
 refine aU ?_
 refine aA Kr 14 rfl ?_; intro Wl ex Wm
 obtain ⟨E,B6,Vr,Vs,Vt,Vu⟩ := gL ex E B6 Vr Vs Vt Vu
 refine my 0 rfl (cN rfl Vr) ?_
 refine my 1 rfl (cN rfl Vs) ?_
 refine my 3 rfl (cN rfl Vt) ?_
 refine my 4 rfl (cN rfl Vu) ?_
 refine my 6 rfl (cN rfl Vs) ?_
 refine my 7 rfl (cN rfl Vt) ?_
 refine my 9 rfl (cN rfl Vr) ?_
 refine my 10 rfl (cN rfl Vu) ?_
 refine bm 2 rfl func144 rfl (bE FF FG _) ?_
 rintro e _ ⟨c1, rfl, X1, ex⟩
 refine aU ?_
 obtain ⟨E,B6⟩ := aY ex E B6
 obtain ⟨x1, rfl, X1⟩ := X1.fe
 refine bm 5 rfl func144 rfl (bE FH FI _) ?_
 rintro e _ ⟨c2, rfl, X2, ex⟩
 refine aU ?_
 obtain ⟨E,B6⟩ := aY ex E B6
 obtain ⟨x2, rfl, X2⟩ := X2.fe
 refine bm 8 rfl func144 rfl (bE FG FH _) ?_
 rintro e _ ⟨c3, rfl, X3, ex⟩
 refine aU ?_
 obtain ⟨E,B6⟩ := aY ex E B6
 obtain ⟨x3, rfl, X3⟩ := X3.fe
 refine bm 11 rfl func144 rfl (bE FF FI _) ?_
 rintro e _ ⟨c4, rfl, X4, ex⟩
 refine aU ?_
 obtain ⟨E,B6⟩ := aY ex E B6
 obtain ⟨x4, rfl, X4⟩ := X4.fe
 refine cU 12 rfl (fun _ => aJ rfl (cells := pc x1 x2 x3 x4 true) Kr) ?_
 refine aM 13 Kr ?_; refine aO rfl (ag rfl rfl (by rw [bz]; kernel_rfl) B6 (by rw [bz, bz]) (iI _ _ _ _ _)) rfl ?_
 rintro _ _ ⟨rfl, D6, cg⟩
 refine ⟨.inl rfl, ?_⟩
 have E6 := E.aw cg V2
 refine aU ?_
 refine hret rfl D6 (bz _ _ _ _ _) ?_
 exact ⟨_, rfl, ⟨x1, x2, x3, x4, Ed.Ki p q, rfl, X1, X2, X3, X4, Ed.GA hp hq oP oQ⟩, E6⟩
end
section
attribute [local irreducible] Y Ef WL WC WK WQ WM cx WN WF cT
theorem PT.congr {cs : Array Value} {P Q : Fp.F × Fp.F} (h : PT cs P) (e : P = Q) : PT cs Q := e ▸ h
theorem PT.pp {cs : Array Value} {P : Fp.F × Fp.F} (h : PT cs P) : PP cs P := .inl h
theorem lF (w : World) : Ct 149 #[] w fun e w' => ∃ cs, e = .returned (.agg cs) ∧ PT cs Ed.O ∧ Ext w w' := by
 have E := Ext.refl w
 refine aI (s := 21) 4 func149 rfl rfl rfl underlying136 rfl Kr rfl ?_
 intro _ hret
 refine aU ?_
 intro w1 g0 (B0 : ao _ _ _ (pc zf zf zf zf false)) Vl ex
 replace E := E.ext ex
 refine au 4 ?_
 refine ak (aJ rfl (cells := fe zf) Kr) ?_
 refine aL func143 rfl (cP 1 _ Om) ?_
 rintro e _ ⟨_, rfl, F2, ex⟩
 refine aU ?_
 obtain ⟨E,B0⟩ := aY ex E B0
 obtain ⟨f2, rfl, F2⟩ := F2.fe
 refine aL func147 rfl (xU FE.zero F2 _) ?_
 rintro e _ ⟨c3, rfl, P3, ex⟩
 obtain ⟨E,B0⟩ := aY ex E B0
 refine au 1 ?_
 refine af (ag rfl rfl (by rw [P3.size]; kernel_rfl) B0 (by rw [bz, P3.size]) P3.one) rfl ?_
 rintro _ _ ⟨rfl, B4, cg⟩
 replace E := E.aw cg Vl
 refine aU ?_
 refine hret rfl B4 P3.size ?_
 exact ⟨c3, rfl, P3.congr rfl, E⟩
theorem GI (f1 f2 f3 f4 : Nat → Nat) (w : World) : Ct 148 #[.agg (pc f1 f2 f3 f4 true)] w fun e w' => e = .returned (.agg (pc f1 f2 f3 f4 true)) ∧ Ext w w' := by
 have E := Ext.refl w
 refine aI (s := 21) 8 func148 rfl rfl rfl underlying136 rfl Kr rfl ?_
 intro _ hret
 refine aU ?_
 intro w1 g1 (B1 : ao _ _ _ (pc f1 f2 f3 f4 true)) Vl ex
 replace E := E.ext ex
 have hz := E.size
 refine aU ?_
 intro w2 g2 (B2 : ao _ _ _ (pc zf zf zf zf false)) Vm ex
 obtain ⟨E,B1⟩ := aY ex E B1
 refine au 6 ?_
 refine ak (ah rfl Tn.u rfl (B1.get (Mb _ _ _ _ _))) ?_
 refine au 3 ?_
 refine cm rfl rfl ?_
 refine au 4 ?_
 refine ak (Gw rfl B1) ?_
 refine af (ag rfl rfl (by rw [bz]; kernel_rfl) B2 (by rw [bz, bz]) (iI _ _ _ _ _)) rfl ?_
 rintro _ _ ⟨rfl, B4, cg⟩
 replace E := E.aw cg Om
 refine aU ?_
 refine hret rfl B4 (bz _ _ _ _ _) ?_
 exact ⟨rfl, E⟩
theorem Ex (f1 f2 f3 f4 : Nat → Nat) (w : World) : Ct 148 #[.agg (pc f1 f2 f3 f4 false)] w fun e w' => ∃ cs, e = .returned (.agg cs) ∧ PT cs Ed.O ∧ Ext w w' := by
 have E := Ext.refl w
 refine aI (s := 21) 8 func148 rfl rfl rfl underlying136 rfl Kr rfl ?_
 intro _ hret
 refine aU ?_
 intro w1 g1 (B1 : ao _ _ _ (pc f1 f2 f3 f4 false)) Vl ex
 replace E := E.ext ex
 have hz := E.size
 refine aU ?_
 intro w2 g2 (B2 : ao _ _ _ (pc zf zf zf zf false)) Vm ex
 obtain ⟨E,B1⟩ := aY ex E B1
 refine au 6 ?_
 refine ak (ah rfl Tn.u rfl (B1.get (Mb _ _ _ _ _))) ?_
 refine au 3 ?_
 refine bP rfl rfl ?_
 refine aU ?_
 refine aL func149 rfl (lF _) ?_
 rintro e _ ⟨c3, rfl, P3, ex⟩
 obtain ⟨E,B2⟩ := aY ex E B2
 refine au 1 ?_
 refine af (ag rfl rfl (by rw [P3.size]; kernel_rfl) B2 (by rw [bz, P3.size]) P3.one) rfl ?_
 rintro _ _ ⟨rfl, B4, cg⟩
 replace E := E.aw cg Om
 refine aU ?_
 refine hret rfl B4 P3.size ?_
 exact ⟨c3, rfl, P3, E⟩
theorem qO {cs : Array Value} {P : Fp.F × Fp.F} (h : PP cs P) (w : World) : Ct 148 #[.agg cs] w fun e w' => ∃ ds, e = .returned (.agg ds) ∧ PT ds P ∧ Ext w w' := by
 rcases h with ⟨f1, f2, f3, f4, q, rfl, h⟩ | ⟨f1, f2, f3, f4, rfl, rfl⟩
 ·exact (GI f1 f2 f3 f4 w).mono fun e w' ⟨h1, h2⟩ => ⟨_, h1, ⟨f1, f2, f3, f4, q, rfl, h⟩, h2⟩
 ·exact Ex f1 f2 f3 f4 w
theorem yX {f : Nat → Nat} {y : Fp.F} (Yy : FE (fe f) y) (w : World) :
  Ct 146 #[.agg (fe f)] w fun e w' => ∃ g, e = .returned (.tuple #[.agg (fe g), .bool (decide (Fp.pW (Ed.sq y)))]) ∧ FE (fe g) (if Fp.pW (Ed.sq y) then Fp.root (Ed.sq y) else 0) ∧ Ext w w' := by
 have E := Ext.refl w
 refine cV (s := 5) 20 func146 rfl rfl rfl underlying134 rfl Kr rfl ?_
 intro _ hret
 refine aU ?_
 intro w1 g1 (B1 : ao _ _ _ (fe f)) Vr ex
 replace E := E.ext ex
 have hz := E.size
 refine aU ?_
 intro w2 g2 (B2 : ao _ _ _ (fe zf)) Vs ex
 obtain ⟨E,B1⟩ := aY ex E B1
 refine au 5 ?_
 refine ak (cN rfl B1) ?_
 refine aL func205 rfl (bQ Yy _) ?_
 rintro e _ ⟨_, rfl, F3, ex⟩
 obtain ⟨E,B2⟩ := aY ex E B2
 obtain ⟨f3, rfl, F3⟩ := F3.fe
 have Vt := B2.lt
 refine aU ?_
 intro w4 g4 (B4 : ao _ _ _ (fe zf)) Vu ex
 obtain ⟨E,B2⟩ := aY ex E B2
 refine af (ag rfl rfl (by rw [ai]; kernel_rfl) B4 (by rw [ai, ai]) (bh _)) rfl ?_
 rintro _ _ ⟨rfl, D4, cg⟩
 replace E := E.aw cg Om; replace B2 := B2.aw cg Om
 refine aU ?_
 refine aA Kr 15 rfl ?_; intro Vv ex Vw
 obtain ⟨E,B2,D4⟩ := bC ex E B2 D4
 refine my 0 rfl (cN rfl D4) ?_
 refine my 4 rfl (cN rfl D4) ?_
 refine bm 1 rfl func143 rfl (cP 1 _ Om) ?_
 rintro e _ ⟨_, rfl, F6, ex⟩
 obtain ⟨E,B2⟩ := aY ex E B2
 refine aU ?_
 refine bm 2 rfl func206 rfl (eQ F3 F6 _) ?_
 rintro e _ ⟨_, rfl, F7, ex⟩
 obtain ⟨E,B2⟩ := aY ex E B2
 refine aU ?_
 refine bm 3 rfl func150 rfl (vL _) ?_
 rintro e _ ⟨_, rfl, F8, ex⟩
 obtain ⟨E,B2⟩ := aY ex E B2
 refine aU ?_
 refine bm 5 rfl func144 rfl (bE F8 F3 _) ?_
 rintro e _ ⟨_, rfl, F9, ex⟩
 obtain ⟨E,B2⟩ := aY ex E B2
 refine aU ?_
 refine bm 6 rfl func143 rfl (cP 1 _ Om) ?_
 rintro e _ ⟨_, rfl, Vm, ex⟩
 obtain ⟨E,B2⟩ := aY ex E B2
 refine aU ?_
 refine bm 7 rfl func151 rfl (dK F9 Vm _) ?_
 rintro e _ ⟨_, rfl, Vn, ex⟩
 obtain ⟨E,B2⟩ := aY ex E B2
 refine aU ?_
 refine bm 8 rfl func145 rfl (ir Vn _) ?_
 rintro e _ ⟨_, rfl, Vo, ex⟩
 obtain ⟨E,B2⟩ := aY ex E B2
 refine aU ?_
 refine bm 9 rfl func144 rfl (bE F7 Vo _) ?_
 rintro e _ ⟨_, rfl, Vp, ex⟩
 obtain ⟨E,B2⟩ := aY ex E B2
 refine aU ?_
 refine bm 10 rfl func207 rfl (zv Vp _) ?_
 rintro e _ ⟨_, rfl, Vl, ex⟩
 obtain ⟨E,B2⟩ := aY ex E B2
 obtain ⟨f14, rfl, Vl⟩ := Vl.fe
 refine zm [11, 12] ?_
 refine aM 13 Kr ?_; refine aO rfl (ag rfl rfl (by rw [ai]; kernel_rfl) B2 (by rw [ai, ai]) (bh _)) rfl ?_
 rintro _ _ ⟨rfl, Vq, cg⟩
 refine ⟨.inl rfl, ?_⟩
 replace E := E.aw cg Om
 refine zm [14] ?_
 refine hret rfl rfl Vq (ai _) ?_
 exact ⟨f14, rfl, Vl, E⟩
end
end
section
open Go.RowKit Tryz
section
attribute [local irreducible] Y Ef WL WC WK WQ WM cx WN WF cT
theorem PP.pc {cs : Array Value} {P : Fp.F × Fp.F} (h : PP cs P) : ∃ f1 f2 f3 f4 b, cs = Go.Proofs.YtgfafidlkldeaaaGreat.pc f1 f2 f3 f4 b ∧ PP (Go.Proofs.YtgfafidlkldeaaaGreat.pc f1 f2 f3 f4 b) P := by
 have h0 := h
 rcases h with ⟨f1, f2, f3, f4, q, rfl, h⟩ | ⟨f1, f2, f3, f4, rfl, h⟩
 ·exact ⟨f1, f2, f3, f4, true, rfl, h0⟩
 ·exact ⟨f1, f2, f3, f4, false, rfl, h0⟩
theorem rC : (if Fp.pW (Ed.sq (Fp.of 4 * Fp.inv (Fp.of 5))) then Fp.root (Ed.sq (Fp.of 4 * Fp.inv (Fp.of 5))) else 0) = Ed.B.1 ∧ Fp.of 4 * Fp.inv (Fp.of 5) = Ed.B.2 := by
 have h1 : Fp.of 4 * Fp.inv (Fp.of 5) = Ed.B.2 := (Ed.sh (by decide +kernel) (by decide +kernel)).symm
 refine ⟨?_, h1⟩
 rw [h1]
 have h2 : Ed.B.1 * Ed.B.1 = Ed.sq Ed.B.2 := Ed.Kk.1 Ed.JN
 have h3 := Fp.jC h2
 rw [if_pos h3]
 have h4 := Fp.EY h3
 have h5 := Fp.zk (Ed.sq Ed.B.2)
 rcases Fp.zp (h4.trans h2.symm) with e | e
 ·exact e
 ·exfalso
  rw [e] at h5
  have : (-Ed.B.1).val % 2 = 1 := by decide +kernel
  omega
theorem qN (w : World) : Ct 70 #[] w fun e w' => ∃ cs, e = .returned (.agg cs) ∧ PT cs Ed.B ∧ Ext w w' := by
 have E := Ext.refl w
 refine aI (s := 21) 16 func70 rfl rfl rfl underlying136 rfl Kr rfl ?_
 intro _ hret
 refine aU ?_
 intro w1 g0 (B0 : ao _ _ _ (pc zf zf zf zf false)) Vo ex
 replace E := E.ext ex
 refine aU ?_
 refine aL func143 rfl (cP 4 _ Om) ?_
 rintro e _ ⟨_, rfl, F2, ex⟩
 obtain ⟨E,B0⟩ := aY ex E B0
 refine aU ?_
 refine aL func143 rfl (cP 5 _ Om) ?_
 rintro e _ ⟨_, rfl, F3, ex⟩
 obtain ⟨E,B0⟩ := aY ex E B0
 refine aU ?_
 refine aL func145 rfl (ir F3 _) ?_
 rintro e _ ⟨_, rfl, F4, ex⟩
 obtain ⟨E,B0⟩ := aY ex E B0
 refine aU ?_
 refine aL func144 rfl (bE F2 F4 _) ?_
 rintro e _ ⟨_, rfl, F5, ex⟩
 obtain ⟨E,B0⟩ := aY ex E B0
 obtain ⟨f5, rfl, F5⟩ := F5.fe
 have Vm := B0.lt
 refine aU ?_
 intro w6 g6 (B6 : ao _ _ _ (fe zf)) Vp ex
 obtain ⟨E,B0⟩ := aY ex E B0
 refine af (ag rfl rfl (by rw [ai]; kernel_rfl) B6 (by rw [ai, ai]) (bh _)) rfl ?_
 rintro _ _ ⟨rfl, D6, cg⟩
 replace E := E.aw cg Om; replace B0 := B0.aw cg Om
 refine au 4 ?_
 refine ak (cN rfl D6) ?_
 refine aL func146 rfl (yX F5 _) ?_
 rintro e _ ⟨_, rfl, F8, ex⟩
 obtain ⟨E,B0,D6⟩ := bC ex E B0 D6
 have Vm := B0.lt; have Vq := D6.lt
 refine aU ?_
 intro w9 g9 (B9 : ao _ _ _ (fe zf)) Vr ex
 obtain ⟨E,B0,D6⟩ := bC ex E B0 D6
 refine af (ag rfl rfl (by rw [ai]; kernel_rfl) B9 (by rw [ai, ai]) (bh _)) rfl ?_
 rintro _ _ ⟨rfl, D9, cg⟩
 replace E := E.aw cg Om; replace B0 := B0.aw cg Om; replace D6 := D6.aw cg Om
 refine au 5 ?_
 refine ak (cN rfl D9) ?_
 refine ak (cN rfl D6) ?_
 refine aL func147 rfl (xU F8 F5 _) ?_
 rintro e _ ⟨Vn, rfl, Vl, ex⟩
 obtain ⟨E,B0⟩ := aY ex E B0
 refine au 1 ?_
 refine af (ag rfl rfl (by rw [Vl.size]; kernel_rfl) B0 (by rw [bz, Vl.size]) Vl.one) rfl ?_
 rintro _ _ ⟨rfl, D0, cg⟩
 replace E := E.aw cg Om
 refine aU ?_
 refine hret rfl D0 Vl.size ?_
 exact ⟨Vn, rfl, Vl.congr (by rw [rC.1, rC.2]), E⟩
theorem PT.get {cs : Array Value} {P : Fp.F × Fp.F} (h : PT cs P) : ∃ f1 f2 f3 f4, cs = pc f1 f2 f3 f4 true ∧ ∃ q : Ed.Q4, FE (fe f1) q.x ∧ FE (fe f2) q.y ∧ FE (fe f3) q.z ∧ FE (fe f4) q.t ∧ Ed.oA q P := by
 obtain ⟨f1, f2, f3, f4, q, rfl, h⟩ := h; exact ⟨f1, f2, f3, f4, rfl, q, h⟩
end
section
attribute [local irreducible] Y Ef WL WC WK WQ WM cx WN WF cT
end
section
attribute [local irreducible] Y Ef WL WC WK WQ WM cx WN WF cT
namespace Ed
open Fp
theorem zj {l : Lb} (h : l.length = 32) (x : UInt8) : num (l.set 31 x) = num l % 256 ^ 31 + 256 ^ 31 * x.toNat := by
 have e : l.set 31 x = l.take 31 ++ [x] := by
  rw [List.set_eq_take_append_cons_drop, if_pos Om, List.drop_of_length_le Om]
 have hl : (l.take 31).length = 31 := by rw [List.length_take]; omega
 rw [e, gy, uM _ _ Om, hl]
 simp only [num]
 omega
theorem IA : top = 256 ^ 31 * 128 := by decide +kernel
theorem yb {x : Nat} (h : x < top) : ((le 32 x).getD 31 0).toNat < 128 ∧ x / 256 ^ 31 = ((le 32 x).getD 31 0).toNat := by
 have hl : (le 32 x).length = 32 := cH 32 x
 have hn : num (le 32 x) = x := wP 32 x (by rw [← JR]; omega)
 have h1 := oW (le 32 x) 31 Om
 have e : (le 32 x).drop 31 = [(le 32 x).getD 31 0] := by
  rw [List.drop_eq_getElem_cons Om, List.drop_of_length_le Om, List.getD_eq_getElem?_getD, List.getElem?_eq_getElem Om]; rfl
 rw [e, hn] at h1
 have h2 : ((le 32 x).getD 31 0).toNat = x / 256 ^ 31 := by rw [← h1]; simp [num]
 exact ⟨by rw [h2]; exact Nat.div_lt_of_lt_mul (by rw [← IA]; exact h), h2.symm⟩
theorem Bg {P : F × F} (h : ¬ P.1.val % 2 = 1) : le 32 P.2.val = enc P := by
 unfold enc
 rw [show P.1.val % 2 = 0 by omega]; rfl
theorem GV {P : F × F} (h : P.1.val % 2 = 1) {x : Nat} (hx : x = ((le 32 P.2.val).getD 31 0).toNat) : (le 32 P.2.val).set 31 (UInt8.ofNat (x + 128)) = enc P := by
 have hy := P.2.isLt
 have hpt := CV
 obtain ⟨h1, h2⟩ := yb (x := P.2.val) Om
 have hl : (le 32 P.2.val).length = 32 := cH 32 _
 have hn : num (le 32 P.2.val) = P.2.val := wP 32 _ (by rw [← JR]; omega)
 refine xW (by rw [List.length_set, hl, gk]) ?_
 rw [zj hl, EN, hn, h, UInt8.toNat_ofNat', IA, Nat.mod_eq_of_lt (show x + 128 < 2 ^ 8 by omega)]
 have := Nat.mod_add_div P.2.val (256 ^ 31)
 rw [h2, ← hx] at this
 omega
end Ed
theorem LP {q : Ed.Q4} {P : Fp.F × Fp.F} (h : Ed.oA q P) : q.x * Fp.inv q.z = P.1 := (Ed.sh h.1 h.2.1).symm
theorem LL {q : Ed.Q4} {P : Fp.F × Fp.F} (h : Ed.oA q P) : q.y * Fp.inv q.z = P.2 := (Ed.sh h.1 h.2.2.1).symm
theorem xt {n : Nat} (h : n < 256) : ((UInt8.ofNat n).toNat : Int) = (n : Int) := by rw [UInt8.toNat_ofNat']; omega
theorem L7 : ∀ x : Fin 128, bits .or .u8 ((x.val : Nat) : Int) 128 = ((x.val + 128 : Nat) : Int) := by decide +kernel
theorem py {cs : Array Value} {P : Fp.F × Fp.F} (hP : PP cs P) (w : World) :
  Ct 73 #[.agg cs] w fun e w' => ∃ g, e = .returned (.slice (some ⟨g, 0, none⟩) 32 32) ∧ w.heap.size ≤ g ∧ ao w' g 5 (cJ (Ed.enc P)) ∧ Ext w w' := by
 obtain ⟨p1, p2, p3, p4, b, rfl, hP⟩ := hP.pc
 have hpt := Ed.CV
 have hy := P.2.isLt
 obtain ⟨x, hx⟩ : ∃ x, x = ((Fp.le 32 P.2.val).getD 31 0).toNat := ⟨_, rfl⟩
 have Vm : x < 128 := hx ▸ (Ed.yb (x := P.2.val) Om).1
 have hle : (Fp.le 32 P.2.val).length = 32 := Fp.cH 32 _
 have E := Ext.refl w
 refine aj 26 func73 rfl rfl rfl rfl ?_
 intro _ hret
 refine aU ?_
 intro w1 g1 (B1 : ao _ _ _ (pc p1 p2 p3 p4 b)) Vn ex
 replace E := E.ext ex
 refine au 5 ?_
 refine ak (Gw rfl B1) ?_
 refine aL func148 rfl (qO hP _) ?_
 rintro e _ ⟨_, rfl, P3, ex⟩
 refine au 1 ?_
 obtain ⟨E,B1⟩ := aY ex E B1
 obtain ⟨f1, f2, f3, f4, rfl, q, F1, F2, F3, F4, R⟩ := P3.get
 refine af (ag rfl rfl (by rw [bz]; kernel_rfl) B1 (by rw [bz, bz]) (iI _ _ _ _ _)) rfl ?_
 rintro _ _ ⟨rfl, D1, cg⟩
 replace E := E.aw cg Om
 refine au 5 ?_
 refine ak (EM rfl D1) ?_
 refine aL func145 rfl (ir F3 _) ?_
 rintro e _ ⟨_, rfl, FI, ex⟩
 obtain ⟨E,D1⟩ := aY ex E D1
 obtain ⟨fi, rfl, FI⟩ := FI.fe
 have hl := D1.lt
 refine aU ?_
 intro w6 g3 (B3 : ao _ _ _ (fe zf)) Vo ex
 obtain ⟨E,D1⟩ := aY ex E D1
 refine af (ag rfl rfl (by rw [ai]; kernel_rfl) B3 (by rw [ai, ai]) (bh _)) rfl ?_
 rintro _ _ ⟨rfl, D3, cg⟩
 replace E := E.aw cg Om; replace D1 := D1.aw cg Om
 refine au 5 ?_
 refine ak (De rfl D1) ?_
 refine ak (cN rfl D3) ?_
 refine aL func144 rfl (bE F2 FI _) ?_
 rintro e _ ⟨_, rfl, FY, ex⟩
 refine aU ?_
 obtain ⟨E,D1,D3⟩ := bC ex E D1 D3
 rw [LL R] at FY
 have Vp := E.size
 refine aL func155 rfl (iQ FY _) ?_
 rintro e _ ⟨g9, rfl, _, B9, ex⟩
 obtain ⟨E,D1,D3⟩ := bC ex E D1 D3
 refine au 8 ?_
 refine ak (DG rfl D1) ?_
 refine ak (cN rfl D3) ?_
 refine aL func144 rfl (bE F1 FI _) ?_
 rintro e _ ⟨_, rfl, FX, ex⟩
 refine aU ?_
 obtain ⟨E,B9⟩ := aY ex E B9
 rw [LP R] at FX
 refine aL func156 rfl (gn FX _) ?_
 rintro e _ ⟨rfl, ex⟩
 obtain ⟨E,B9⟩ := aY ex E B9
 refine aU ?_
 refine al rfl (fun Vl => ?_) (fun Vl => ?_)
 ·refine au 2 ?_
  refine ak (aD rfl rfl Tn.u Kr (j := 31) rfl Om) ?_
  refine ak (ah rfl Tn.u rfl (B9.get (iX (i := 31) Om))) ?_
  refine ak (jk rfl rfl (show bits .or .u8 _ 128 = ((x + 128 : Nat) : Int) by rw [← hx]; exact L7 ⟨x, Vm⟩)) ?_
  refine ak (aD rfl rfl Tn.u Kr (j := 31) rfl Om) ?_
  rw [← xt (n := x + 128) Om]
  refine af (az rfl rfl rfl Kr B9 (by rw [aW]; omega)) rfl ?_
  rintro _ _ ⟨rfl, D9, cg⟩
  replace E := E.aw cg Om; rw [j3, Ed.GV Vl hx] at D9
  refine aU ?_
  refine hret rfl ?_
  exact ⟨g9, rfl, by omega, D9, E⟩
 ·refine aU ?_
  refine hret rfl ?_
  exact ⟨g9, rfl, by omega, B9.congr (by rw [Ed.Bg Vl]), E⟩
end
end
section
open Go.RowKit Tryz
section
attribute [local irreducible] Y Ef WL WC WK WQ WM cx WN WF cT
namespace Ed
open Fp
end Ed
end
section
attribute [local irreducible] Y Ef WL WC WK WQ WM cx WN WF cT
end
end
end Go.Proofs.YtgfafidlkldeaaaGreat
