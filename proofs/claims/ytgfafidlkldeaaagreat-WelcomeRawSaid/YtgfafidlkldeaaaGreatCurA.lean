/- Points of the curve as the program holds them: sums, nothing, flat; bytes held against bytes. Points of the curve as the program holds them: the base, sums, turned about, told apart, bytes, whether right. Points of bytes; the layer's alive. -/
import Derived.Test.YtgfafidlkldeaaaGreatDhA
import Derived.Test.YtgfafidlkldeaaaGreatVs
import Derived.Test.YtgfafidlkldeaaaGreatAu
set_option linter.unusedVariables false
set_option linter.unusedSimpArgs false
set_option maxHeartbeats 4000000
set_option maxRecDepth 4000
namespace Go.Proofs.YtgfafidlkldeaaaGreat
section
open Go.RowKit Tryz
section
attribute [local irreducible] Y Ef WL WC WK WQ WM cE WN WF dc
def pc (f1 f2 f3 f4 : Nat → Nat) (b : Bool) : Array Value := fe f1 ++ fe f2 ++ fe f3 ++ fe f4 ++ #[.bool b]
theorem br (f1 f2 f3 f4 : Nat → Nat) (b : Bool) : (pc f1 f2 f3 f4 b).size = 21 := by simp [pc, aj]
theorem jI (f1 f2 f3 f4 : Nat → Nat) (b : Bool) : (pc f1 f2 f3 f4 b).all (·.oneCell') = true := by
 unfold pc
 rw [Array.all_append, Array.all_append, Array.all_append, Array.all_append, bh, bh, bh, bh]; simp [Value.oneCell']
theorem lZ {a b : Array Value} {j : Nat} {v : Value} (h : a[j]? = some v) : (a ++ b)[j]? = some v := by
 rw [Array.getElem?_append_left (Array.getElem?_eq_some_iff.1 h).1]; exact h
theorem zQ {a b : Array Value} {j k : Nat} {v : Value} (hk : a.size = k) (h : b[j]? = some v) : (a ++ b)[k + j]? = some v := by
 subst hk; rw [Array.getElem?_append_right Om, Nat.add_sub_cancel_left]; exact h
theorem OZ (f1 f2 f3 f4 : Nat → Nat) (b : Bool) (j : Nat) (v : Value) (h : (fe f1)[j]? = some v) : (pc f1 f2 f3 f4 b)[0 + j]? = some v := by
 rw [Nat.zero_add]; exact lZ (lZ (lZ (lZ h)))
theorem PX (f1 f2 f3 f4 : Nat → Nat) (b : Bool) (j : Nat) (v : Value) (h : (fe f2)[j]? = some v) : (pc f1 f2 f3 f4 b)[5 + j]? = some v :=
 lZ (lZ (lZ (zQ (aj _) h)))
theorem Pe (f1 f2 f3 f4 : Nat → Nat) (b : Bool) (j : Nat) (v : Value) (h : (fe f3)[j]? = some v) : (pc f1 f2 f3 f4 b)[10 + j]? = some v :=
 lZ (lZ (zQ (by simp [aj]) h))
theorem PK (f1 f2 f3 f4 : Nat → Nat) (b : Bool) (j : Nat) (v : Value) (h : (fe f4)[j]? = some v) : (pc f1 f2 f3 f4 b)[15 + j]? = some v :=
 lZ (zQ (by simp [aj]) h)
theorem N9 (f1 f2 f3 f4 : Nat → Nat) (b : Bool) : (pc f1 f2 f3 f4 b)[20]? = some (.bool b) :=
 zQ (j := 0) (k := 20) (by simp [aj]) rfl
section
variable {L : List (Nat × Value)} {w : World} {ty e : TypeId} {x : Operand} {g : Nat} {f1 f2 f3 f4 : Nat → Nat} {b : Bool}
theorem Iu (hx : ev L x = some (.pointer (some ⟨g, 0, none⟩))) (B : ao w g e (pc f1 f2 f3 f4 b)) : Y Tryz.prog L w (.load 136 x) ty (.agg (pc f1 f2 f3 f4 b)) := aY hx underlying136 rfl (by rw [br]; kernel_rfl) B
theorem Hn (hx : ev L x = some (.pointer (some ⟨g, 0, none⟩))) (B : ao w g e (pc f1 f2 f3 f4 b)) : Y Tryz.prog L w (.load 134 x) ty (.agg (fe f1)) :=
 fL hx underlying134 rfl (by rw [aj]; kernel_rfl) fun j v hv => by rw [Addr.add_plain, B.cell]; exact OZ _ _ _ _ _ j v hv
theorem GY (hx : ev L x = some (.pointer (some ⟨g, 5, none⟩))) (B : ao w g e (pc f1 f2 f3 f4 b)) : Y Tryz.prog L w (.load 134 x) ty (.agg (fe f2)) :=
 fL hx underlying134 rfl (by rw [aj]; kernel_rfl) fun j v hv => by rw [Addr.add_plain, B.cell]; exact PX _ _ _ _ _ j v hv
theorem IQ (hx : ev L x = some (.pointer (some ⟨g, 10, none⟩))) (B : ao w g e (pc f1 f2 f3 f4 b)) : Y Tryz.prog L w (.load 134 x) ty (.agg (fe f3)) :=
 fL hx underlying134 rfl (by rw [aj]; kernel_rfl) fun j v hv => by rw [Addr.add_plain, B.cell]; exact Pe _ _ _ _ _ j v hv
theorem Of (hx : ev L x = some (.pointer (some ⟨g, 15, none⟩))) (B : ao w g e (pc f1 f2 f3 f4 b)) : Y Tryz.prog L w (.load 134 x) ty (.agg (fe f4)) :=
 fL hx underlying134 rfl (by rw [aj]; kernel_rfl) fun j v hv => by rw [Addr.add_plain, B.cell]; exact PK _ _ _ _ _ j v hv
end
def PT (cs : Array Value) (P : Fp.F × Fp.F) : Prop := ∃ f1 f2 f3 f4 q, cs = pc f1 f2 f3 f4 true ∧ FE (fe f1) q.x ∧ FE (fe f2) q.y ∧ FE (fe f3) q.z ∧ FE (fe f4) q.t ∧ Ed.pP q P
def PP (cs : Array Value) (P : Fp.F × Fp.F) : Prop := PT cs P ∨ ∃ f1 f2 f3 f4, cs = pc f1 f2 f3 f4 false ∧ P = Ed.O
theorem PT.size {cs : Array Value} {P : Fp.F × Fp.F} (h : PT cs P) : cs.size = 21 := by obtain ⟨f1, f2, f3, f4, q, rfl, _⟩ := h; exact br _ _ _ _ _
theorem PT.one {cs : Array Value} {P : Fp.F × Fp.F} (h : PT cs P) : cs.all (·.oneCell') = true := by obtain ⟨f1, f2, f3, f4, q, rfl, _⟩ := h; exact jI _ _ _ _ _
def zf : Nat → Nat := fun _ => 0
theorem AG {f1 f2 : Nat → Nat} {x y : Fp.F} (X : FE (fe f1) x) (Yy : FE (fe f2) y) (w : World) :
  Ct 147 #[.agg (fe f1), .agg (fe f2)] w fun e w' => ∃ cs, e = .returned (.agg cs) ∧ PT cs (x, y) ∧ Ext w w' := by
 have E := Ext.refl w
 refine aH (s := 21) 12 func147 rfl rfl rfl underlying136 rfl Kr rfl ?_
 intro _ hret
 refine aU ?_
 intro w1 g2 (B2 : ao _ _ _ (fe f1)) Vw ex
 replace E := E.ext ex
 refine aU ?_
 intro w2 g3 (B3 : ao _ _ _ (fe f2)) Vx ex
 obtain ⟨E,B2⟩ := ba ex E B2
 have hz := E.size
 refine aU ?_
 intro w3 g4 (B4 : ao _ _ _ (pc zf zf zf zf false)) Vy ex
 obtain ⟨E,B2,B3⟩ := bC ex E B2 B3
 refine aU ?_
 refine aC Kr 8 rfl ?_; intro Vz ex VA
 obtain ⟨E,B2,B3,B4⟩ := bO ex E B2 B3 B4
 refine my 0 rfl (cX rfl B2) ?_
 refine my 1 rfl (cX rfl B3) ?_
 refine my 3 rfl (cX rfl B2) ?_
 refine my 4 rfl (cX rfl B3) ?_
 refine bD 2 rfl func143 rfl (de 1 _ Om) ?_
 rintro e _ ⟨_, rfl, F5, ex⟩
 refine aU ?_
 obtain ⟨E,B4⟩ := ba ex E B4
 obtain ⟨f5, rfl, F5⟩ := F5.fe
 refine bD 5 rfl func144 rfl (bB X Yy _) ?_
 rintro e _ ⟨_, rfl, F6, ex⟩
 refine aU ?_
 obtain ⟨E,B4⟩ := ba ex E B4
 obtain ⟨f6, rfl, F6⟩ := F6.fe
 refine dk 6 rfl (fun _ => aq rfl (cells := pc f1 f2 f5 f6 true) Kr) ?_
 refine bk 7 Kr ?_; refine bH rfl (ah rfl rfl (by rw [br]; kernel_rfl) B4 (by rw [br, br]) (jI _ _ _ _ _)) rfl ?_
 rintro _ _ ⟨rfl, B7, cg⟩
 refine ⟨.inl rfl, ?_⟩
 replace E := E.aE cg Om
 refine aU ?_
 refine hret rfl B7 (br _ _ _ _ _) ?_
 exact ⟨_, rfl, ⟨f1, f2, f5, f6, Ed.Qd (x, y), rfl, X, Yy, F5, F6, Ed.Nl _⟩, E⟩
theorem yd (w : World) : Ct 150 #[] w fun e w' => ∃ f, e = .returned (.agg (fe f)) ∧ FE (fe f) Ed.d ∧ Ext w w' := by
 have E := Ext.refl w
 have hd : (-(Fp.of 121665)) * Fp.inv (Fp.of 121666) = Ed.d := (Ed.uJ Ed.PF Ed.NJ.symm).symm
 refine aH (s := 5) 6 func150 rfl rfl rfl underlying134 rfl Kr rfl ?_
 intro _ hret
 refine aU ?_
 intro w1 g0 (B0 : ao _ _ _ (fe zf)) Vw ex
 replace E := E.ext ex
 refine aU ?_
 refine aB func143 rfl (de 121665 _ Om) ?_
 rintro e _ ⟨_, rfl, F2, ex⟩
 obtain ⟨E,B0⟩ := ba ex E B0
 refine aU ?_
 refine aB func208 rfl (gZ F2 _) ?_
 rintro e _ ⟨_, rfl, F3, ex⟩
 obtain ⟨E,B0⟩ := ba ex E B0
 refine aU ?_
 refine aB func143 rfl (de 121666 _ Om) ?_
 rintro e _ ⟨_, rfl, F4, ex⟩
 obtain ⟨E,B0⟩ := ba ex E B0
 refine aU ?_
 refine aB func145 rfl (jg F4 _) ?_
 rintro e _ ⟨_, rfl, F5, ex⟩
 obtain ⟨E,B0⟩ := ba ex E B0
 refine aU ?_
 refine aB func144 rfl (bB F3 F5 _) ?_
 rintro e _ ⟨_, rfl, F6, ex⟩
 refine au 1 ?_
 obtain ⟨E,B0⟩ := ba ex E B0
 rw [hd] at F6; obtain ⟨f6, rfl, F6⟩ := F6.fe
 refine ag (ah rfl rfl (by rw [aj]; kernel_rfl) B0 (by rw [aj, aj]) (bh _)) rfl ?_
 rintro _ _ ⟨rfl, B7, cg⟩
 replace E := E.aE cg Vw
 refine aU ?_
 refine hret rfl B7 (aj _) ?_
 exact ⟨f6, rfl, F6, E⟩
section
variable {P : Program} {ops : Array Oper} {Q : Exit → Act → World → Prop} {N : Nd} {L : List (Nat × Value)} {w w0 : World}
theorem EY {f g k l : Fl} {n : Nat} {listed : Array Bool} (ok : rv P ops w0 [f, g, k, l] listed N L) (hr : pW ops (eu listed [f, g, k, l]) [f.i, g.i, k.i, l.i] = true)
    (h : ∀ v u x y w1, Ext w w1 → zb w0 f v w1 → zb w0 g u w1 → zb w0 k x w1 → zb w0 l y w1 → ML v u → ML v x → ML v y → ML u x → ML u y → ML x y → WN P ops Q w0 n (eu listed [f, g, k, l]) N ((f.d, v) :: (g.d, u) :: (k.d, x) :: (l.d, y) :: L) w1) : WF P ops Q w0 [f, g, k, l] n listed N L w :=
  tP ok (tJ hr) fun st w1 hst hu hx hR hap => by
    match st, hst, hu, hR, hap with
    | [(f', o1), (g', o2), (k', o3), (l', o4)], hst, hu, hR, hap =>
      simp only [List.map_cons, List.map_nil, List.cons.injEq, and_true] at hst
      obtain ⟨rfl, rfl, rfl, rfl⟩ := hst
      obtain ⟨v, hv⟩ := kO hu (f', o1) (by simp)
      obtain ⟨u, Vw⟩ := kO hu (g', o2) (by simp)
      obtain ⟨x, Vx⟩ := kO hu (k', o3) (by simp)
      obtain ⟨y, Vy⟩ := kO hu (l', o4) (by simp)
      simp only at hv Vw Vx Vy
      subst hv; subst Vw; subst Vx; subst Vy
      exact h v u x y w1 hx (hR (f', some v) (by simp) v rfl) (hR (g', some u) (by simp) u rfl) (hR (k', some x) (by simp) x rfl) (hR (l', some y) (by simp) y rfl) (fun b h1 h2 => hap.1 (g', some u) (by simp) v u b rfl rfl h1 h2) (fun b h1 h2 => hap.1 (k', some x) (by simp) v x b rfl rfl h1 h2) (fun b h1 h2 => hap.1 (l', some y) (by simp) v y b rfl rfl h1 h2) (fun b h1 h2 => hap.2.1 (k', some x) (by simp) u x b rfl rfl h1 h2) (fun b h1 h2 => hap.2.1 (l', some y) (by simp) u y b rfl rfl h1 h2) (fun b h1 h2 => hap.2.2.1 (l', some y) (by simp) x y b rfl rfl h1 h2)
end
theorem wF {p1 p2 p3 p4 q1 q2 q3 q4 fd : Nat → Nat} {p q : Ed.Q4} {P Q : Fp.F × Fp.F} (P1 : FE (fe p1) p.x) (P2 : FE (fe p2) p.y) (P3 : FE (fe p3) p.z) (P4 : FE (fe p4) p.t) (Q1 : FE (fe q1) q.x) (Q2 : FE (fe q2) q.y) (Q3 : FE (fe q3) q.z) (Q4 : FE (fe q4) q.t)
  (D : FE (fe fd) (Ed.d + Ed.d)) (hp : Ed.pP p P) (hq : Ed.pP q Q) (oP : Ed.On P) (oQ : Ed.On Q) (b c : Bool) (w : World) :
  Ct 152 #[.agg (pc p1 p2 p3 p4 b), .agg (pc q1 q2 q3 q4 c), .agg (fe fd)] w fun e w' => ∃ cs, e = .returned (.agg cs) ∧ PT cs (Ed.add P Q) ∧ Ext w w' := by
 have E := Ext.refl w
 refine aH (s := 21) 77 func152 rfl rfl rfl underlying136 rfl Kr rfl ?_
 intro Q hret
 refine aU ?_
 intro w1 g3 (B3 : ao _ _ _ (pc p1 p2 p3 p4 b)) Wm ex
 replace E := E.ext ex
 refine aU ?_
 intro w2 g4 (B4 : ao _ _ _ (pc q1 q2 q3 q4 c)) Wn ex
 obtain ⟨E,B3⟩ := ba ex E B3
 refine aU ?_
 intro w3 g5 (B5 : ao _ _ _ (fe fd)) Wo ex
 obtain ⟨E,B3,B4⟩ := bC ex E B3 B4
 have hz := E.size
 refine aU ?_
 intro w4 g6 (B6 : ao _ _ _ (pc zf zf zf zf false)) Wq ex
 obtain ⟨E,B3,B4,B5⟩ := bO ex E B3 B4 B5
 have Wh : w.heap.size ≤ g6 := by omega
 refine aU ?_
 refine dH Kr 13 rfl ?_; intro Wf ex Wr
 obtain ⟨E,B3,B4,B5,B6⟩ := er ex E B3 B4 B5 B6
 have VP := E
 have Vy := B3
 have VA := B4
 have VQ := B5
 have VB := B6
 have X0 := Ext.refl Wf
 refine zm [0] ?_
 refine dL 1 rfl Kr (GY rfl Vy) rfl ?_
 refine zm [2] ?_
 refine dL 3 rfl Kr (Hn rfl Vy) rfl ?_
 refine zm [5] ?_
 refine dL 6 rfl Kr (GY rfl VA) rfl ?_
 refine zm [7] ?_
 refine dL 8 rfl Kr (Hn rfl VA) rfl ?_
 refine dJ (fl := [rz 11 7 134 (fe zf)]) rfl ?_
 refine ll 4 (some 19) func206 ?_
 intro _ ex exb
 obtain ⟨E,B3,B4,B5,B6,X0⟩ := iP ex E B3 B4 B5 B6 X0
 refine ⟨_, (fz P2 P1 _), ?_⟩
 rintro e _ ⟨c1, rfl, F1, ex⟩
 refine ⟨_, rfl, ex, ?_⟩
 obtain ⟨E,B3,B4,B5,B6,X0⟩ := iP ex E B3 B4 B5 B6 X0
 obtain ⟨f1, rfl, F1⟩ := F1.fe
 refine ll 9 (some 24) func206 ?_
 intro _ ex exb
 obtain ⟨E,B3,B4,B5,B6,X0⟩ := iP ex E B3 B4 B5 B6 X0
 refine ⟨_, (fz Q2 Q1 _), ?_⟩
 rintro e _ ⟨c2, rfl, F2, ex⟩
 refine ⟨_, rfl, ex, ?_⟩
 obtain ⟨E,B3,B4,B5,B6,X0⟩ := iP ex E B3 B4 B5 B6 X0
 obtain ⟨f2, rfl, F2⟩ := F2.fe
 refine ll 10 (some 25) func144 ?_
 intro _ ex exb
 obtain ⟨E,B3,B4,B5,B6,X0⟩ := iP ex E B3 B4 B5 B6 X0
 refine ⟨_, (bB F1 F2 _), ?_⟩
 rintro e _ ⟨c3, rfl, FA, ex⟩
 refine ⟨_, rfl, ex, ?_⟩
 obtain ⟨E,B3,B4,B5,B6,X0⟩ := iP ex E B3 B4 B5 B6 X0
 obtain ⟨fa, rfl, FA⟩ := FA.fe
 refine jr ⟨(bQ (cv rfl Kr) aP), by decide, by decide, (bQ (⟨rfl, by decide⟩) aP), (bQ (bm Kr) aP)⟩ Kr ?_
 rintro _ _ ex ⟨⟨g7, rfl, Vw⟩, Wb⟩
 replace Wb := Wb g7 rfl
 obtain ⟨E,B3,B4,B5,B6,X0⟩ := iP ex E B3 B4 B5 B6 X0
 refine dp 12 Kr ?_
 refine eN rfl (ah rfl rfl (by rw [aj]; kernel_rfl) Vw (by rw [aj, aj]) (bh _)) rfl ?_
 rintro _ _ ⟨rfl, Vw, cg⟩
 replace X0 := X0.aE cg Wb
 refine ⟨X0, ?_⟩
 replace E := VP.ext X0
 replace B3 := Vy.ext X0
 replace B4 := VA.ext X0
 replace B5 := VQ.ext X0
 replace B6 := VB.ext X0
 refine eK Kr ?_
 refine aU ?_
 refine dH Kr 13 rfl ?_; intro Wg ex Ws
 obtain ⟨E,B3,B4,B5,B6,Vw⟩ := iP ex E B3 B4 B5 B6 Vw
 have VP := E
 have Vy := B3
 have VA := B4
 have VQ := B5
 have VB := B6
 have Vz := Vw
 have X0 := Ext.refl Wg
 refine zm [0] ?_
 refine dL 1 rfl Kr (GY rfl Vy) rfl ?_
 refine zm [2] ?_
 refine dL 3 rfl Kr (Hn rfl Vy) rfl ?_
 refine zm [5] ?_
 refine dL 6 rfl Kr (GY rfl VA) rfl ?_
 refine zm [7] ?_
 refine dL 8 rfl Kr (Hn rfl VA) rfl ?_
 refine dJ (fl := [rz 11 8 134 (fe zf)]) rfl ?_
 refine ll 4 (some 30) func151 ?_
 intro _ ex exb
 obtain ⟨E,B3,B4,B5,B6,Vw,X0⟩ := iQ ex E B3 B4 B5 B6 Vw X0
 refine ⟨_, (ez P2 P1 _), ?_⟩
 rintro e _ ⟨c1, rfl, F3, ex⟩
 refine ⟨_, rfl, ex, ?_⟩
 obtain ⟨E,B3,B4,B5,B6,Vw,X0⟩ := iQ ex E B3 B4 B5 B6 Vw X0
 obtain ⟨f3, rfl, F3⟩ := F3.fe
 refine ll 9 (some 35) func151 ?_
 intro _ ex exb
 obtain ⟨E,B3,B4,B5,B6,Vw,X0⟩ := iQ ex E B3 B4 B5 B6 Vw X0
 refine ⟨_, (ez Q2 Q1 _), ?_⟩
 rintro e _ ⟨c2, rfl, F4, ex⟩
 refine ⟨_, rfl, ex, ?_⟩
 obtain ⟨E,B3,B4,B5,B6,Vw,X0⟩ := iQ ex E B3 B4 B5 B6 Vw X0
 obtain ⟨f4, rfl, F4⟩ := F4.fe
 refine ll 10 (some 36) func144 ?_
 intro _ ex exb
 obtain ⟨E,B3,B4,B5,B6,Vw,X0⟩ := iQ ex E B3 B4 B5 B6 Vw X0
 refine ⟨_, (bB F3 F4 _), ?_⟩
 rintro e _ ⟨c3, rfl, FB, ex⟩
 refine ⟨_, rfl, ex, ?_⟩
 obtain ⟨E,B3,B4,B5,B6,Vw,X0⟩ := iQ ex E B3 B4 B5 B6 Vw X0
 obtain ⟨fb, rfl, FB⟩ := FB.fe
 refine jr ⟨(bQ (cv rfl Kr) aP), by decide, by decide, (bQ (⟨rfl, by decide⟩) aP), (bQ (bm Kr) aP)⟩ Kr ?_
 rintro _ _ ex ⟨⟨g8, rfl, Vx⟩, Wc⟩
 replace Wc := Wc g8 rfl
 obtain ⟨E,B3,B4,B5,B6,Vw,X0⟩ := iQ ex E B3 B4 B5 B6 Vw X0
 refine dp 12 Kr ?_
 refine eN rfl (ah rfl rfl (by rw [aj]; kernel_rfl) Vx (by rw [aj, aj]) (bh _)) rfl ?_
 rintro _ _ ⟨rfl, Vx, cg⟩
 replace X0 := X0.aE cg Wc
 refine ⟨X0, ?_⟩
 replace E := VP.ext X0
 replace B3 := Vy.ext X0
 replace B4 := VA.ext X0
 replace B5 := VQ.ext X0
 replace B6 := VB.ext X0
 replace Vw := Vz.ext X0
 refine eK Kr ?_
 refine aU ?_
 refine dH Kr 9 rfl ?_; intro Wi ex Wv
 obtain ⟨E,B3,B4,B5,B6,Vw,Vx⟩ := iQ ex E B3 B4 B5 B6 Vw Vx
 have VP := E
 have Vy := B3
 have VA := B4
 have VQ := B5
 have VB := B6
 have Vz := Vw
 have VG := Vx
 have X0 := Ext.refl Wi
 refine zm [0] ?_
 refine dL 1 rfl Kr (Of rfl Vy) rfl ?_
 refine dL 2 rfl Kr (cX rfl VQ) rfl ?_
 refine zm [4] ?_
 refine dL 5 rfl Kr (Of rfl VA) rfl ?_
 refine dJ (fl := [rz 7 9 134 (fe zf)]) rfl ?_
 refine ll 3 (some 40) func144 ?_
 intro _ ex exb
 obtain ⟨E,B3,B4,B6,Vw,Vx,X0⟩ := iQ ex E B3 B4 B6 Vw Vx X0
 refine ⟨_, (bB P4 D _), ?_⟩
 rintro e _ ⟨c1, rfl, F5, ex⟩
 refine ⟨_, rfl, ex, ?_⟩
 obtain ⟨E,B3,B4,B6,Vw,Vx,X0⟩ := iQ ex E B3 B4 B6 Vw Vx X0
 obtain ⟨f5, rfl, F5⟩ := F5.fe
 refine ll 6 (some 43) func144 ?_
 intro _ ex exb
 obtain ⟨E,B3,B4,B6,Vw,Vx,X0⟩ := iQ ex E B3 B4 B6 Vw Vx X0
 refine ⟨_, (bB F5 Q4 _), ?_⟩
 rintro e _ ⟨c2, rfl, FC, ex⟩
 refine ⟨_, rfl, ex, ?_⟩
 obtain ⟨E,B3,B4,B6,Vw,Vx,X0⟩ := iQ ex E B3 B4 B6 Vw Vx X0
 obtain ⟨fc, rfl, FC⟩ := FC.fe
 refine jr ⟨(bQ (cv rfl Kr) aP), by decide, by decide, (bQ (⟨rfl, by decide⟩) aP), (bQ (bm Kr) aP)⟩ Kr ?_
 rintro _ _ ex ⟨⟨g9, rfl, VH⟩, We⟩
 replace We := We g9 rfl
 obtain ⟨E,B3,B4,B6,Vw,Vx,X0⟩ := iQ ex E B3 B4 B6 Vw Vx X0
 refine dp 8 Kr ?_
 refine eN rfl (ah rfl rfl (by rw [aj]; kernel_rfl) VH (by rw [aj, aj]) (bh _)) rfl ?_
 rintro _ _ ⟨rfl, VH, cg⟩
 replace X0 := X0.aE cg We
 refine ⟨X0, ?_⟩
 replace E := VP.ext X0
 replace B3 := Vy.ext X0
 replace B4 := VA.ext X0
 replace B6 := VB.ext X0
 replace Vw := Vz.ext X0
 replace Vx := VG.ext X0
 refine eK Kr ?_
 refine aU ?_
 refine dH Kr 10 rfl ?_; intro Wj ex Ww
 obtain ⟨E,B3,B4,B6,Vw,Vx,VH⟩ := iQ ex E B3 B4 B6 Vw Vx VH
 have VP := E
 have Vy := B3
 have VA := B4
 have VB := B6
 have Vz := Vw
 have VG := Vx
 have VO := VH
 have X0 := Ext.refl Wj
 refine zm [0] ?_
 refine dL 1 rfl Kr (IQ rfl Vy) rfl ?_
 refine zm [2] ?_
 refine dL 3 rfl Kr (IQ rfl Vy) rfl ?_
 refine zm [5] ?_
 refine dL 6 rfl Kr (IQ rfl VA) rfl ?_
 refine dJ (fl := [rz 8 10 134 (fe zf)]) rfl ?_
 refine ll 4 (some 48) func151 ?_
 intro _ ex exb
 obtain ⟨E,B6,Vw,Vx,VH,X0⟩ := iP ex E B6 Vw Vx VH X0
 refine ⟨_, (ez P3 P3 _), ?_⟩
 rintro e Wf ⟨c1, rfl, F6, ex⟩
 refine ⟨_, rfl, ex, ?_⟩
 obtain ⟨E,B6,Vw,Vx,VH,X0⟩ := iP ex E B6 Vw Vx VH X0
 obtain ⟨f6, rfl, F6⟩ := F6.fe
 refine ll 7 (some 51) func144 ?_
 intro _ ex exb
 obtain ⟨E,B6,Vw,Vx,VH,X0⟩ := iP ex E B6 Vw Vx VH X0
 refine ⟨_, (bB F6 Q3 _), ?_⟩
 rintro e Wg ⟨c2, rfl, FEE, ex⟩
 refine ⟨_, rfl, ex, ?_⟩
 obtain ⟨E,B6,Vw,Vx,VH,X0⟩ := iP ex E B6 Vw Vx VH X0
 obtain ⟨fee, rfl, FEE⟩ := FEE.fe
 refine jr ⟨(bQ (cv rfl Kr) aP), by decide, by decide, (bQ (⟨rfl, by decide⟩) aP), (bQ (bm Kr) aP)⟩ Kr ?_
 rintro _ _ ex ⟨⟨Wk, rfl, VR⟩, VT⟩
 replace VT := VT Wk rfl
 obtain ⟨E,B6,Vw,Vx,VH,X0⟩ := iP ex E B6 Vw Vx VH X0
 refine dp 9 Kr ?_
 refine eN rfl (ah rfl rfl (by rw [aj]; kernel_rfl) VR (by rw [aj, aj]) (bh _)) rfl ?_
 rintro _ _ ⟨rfl, VR, cg⟩
 replace X0 := X0.aE cg VT
 refine ⟨X0, ?_⟩
 replace E := VP.ext X0
 replace B6 := VB.ext X0
 replace Vw := Vz.ext X0
 replace Vx := VG.ext X0
 replace VH := VO.ext X0
 refine eK Kr ?_
 refine aU ?_
 refine dH Kr 20 rfl ?_; intro Wl ex Wx
 obtain ⟨E,B6,Vw,Vx,VH,VR⟩ := iP ex E B6 Vw Vx VH VR
 have VP := E
 have VB := B6
 have Vz := Vw
 have VG := Vx
 have VO := VH
 have VS := VR
 have X0 := Ext.refl Wl
 refine dL 0 rfl Kr (cX rfl VG) rfl ?_
 refine dL 1 rfl Kr (cX rfl Vz) rfl ?_
 refine dL 3 rfl Kr (cX rfl VS) rfl ?_
 refine dL 4 rfl Kr (cX rfl VO) rfl ?_
 refine dL 6 rfl Kr (cX rfl VS) rfl ?_
 refine dL 7 rfl Kr (cX rfl VO) rfl ?_
 refine dL 9 rfl Kr (cX rfl VG) rfl ?_
 refine dL 10 rfl Kr (cX rfl Vz) rfl ?_
 refine dJ (fl := [rz 12 11 134 (fe zf), rz 13 12 134 (fe zf), rz 14 13 134 (fe zf), rz 15 14 134 (fe zf)]) rfl ?_
 refine ll 2 (some 54) func206 ?_
 intro _ ex exb
 obtain ⟨E,B6,X0⟩ := bC ex E B6 X0
 refine ⟨_, (fz FB FA _), ?_⟩
 rintro e _ ⟨c1, rfl, FF, ex⟩
 refine ⟨_, rfl, ex, ?_⟩
 obtain ⟨E,B6,X0⟩ := bC ex E B6 X0
 obtain ⟨ff, rfl, FF⟩ := FF.fe
 refine ll 5 (some 57) func206 ?_
 intro _ ex exb
 obtain ⟨E,B6,X0⟩ := bC ex E B6 X0
 refine ⟨_, (fz FEE FC _), ?_⟩
 rintro e _ ⟨c2, rfl, FG, ex⟩
 refine ⟨_, rfl, ex, ?_⟩
 obtain ⟨E,B6,X0⟩ := bC ex E B6 X0
 obtain ⟨fg, rfl, FG⟩ := FG.fe
 refine ll 8 (some 60) func151 ?_
 intro _ ex exb
 obtain ⟨E,B6,X0⟩ := bC ex E B6 X0
 refine ⟨_, (ez FEE FC _), ?_⟩
 rintro e _ ⟨c3, rfl, FH, ex⟩
 refine ⟨_, rfl, ex, ?_⟩
 obtain ⟨E,B6,X0⟩ := bC ex E B6 X0
 obtain ⟨fh, rfl, FH⟩ := FH.fe
 refine ll 11 (some 63) func151 ?_
 intro _ ex exb
 obtain ⟨E,B6,X0⟩ := bC ex E B6 X0
 refine ⟨_, (ez FB FA _), ?_⟩
 rintro e _ ⟨c4, rfl, FI, ex⟩
 refine ⟨_, rfl, ex, ?_⟩
 obtain ⟨E,B6,X0⟩ := bC ex E B6 X0
 obtain ⟨fi, rfl, FI⟩ := FI.fe
 refine EY ⟨(bQ (cv rfl Kr) (bQ (cv rfl Kr) (bQ (cv rfl Kr) (bQ (cv rfl Kr) aP)))), by decide, by decide, (bQ (⟨rfl, by decide⟩) (bQ (⟨rfl, by decide⟩) (bQ (⟨rfl, by decide⟩) (bQ (⟨rfl, by decide⟩) aP)))), (bQ (bm Kr) (bQ (bm Kr) (bQ (bm Kr) (bQ (bm Kr) aP))))⟩ Kr ?_
 rintro _ _ _ _ _ ex ⟨⟨VU, rfl, VC⟩, VV⟩ ⟨⟨VZ, rfl, VD⟩, VW⟩ ⟨⟨V9, rfl, VE⟩, VX⟩ ⟨⟨Wa, rfl, VF⟩, VY⟩ VI VJ VK VL VM VN
 replace VV := VV VU rfl
 replace VW := VW VZ rfl
 replace VX := VX V9 rfl
 replace VY := VY Wa rfl
 have V0 : VU ≠ VZ := fun e => VI VU rfl (by rw [e]; rfl)
 have V4 : VU ≠ V9 := fun e => VJ VU rfl (by rw [e]; rfl)
 have V5 : VU ≠ Wa := fun e => VK VU rfl (by rw [e]; rfl)
 have V6 : VZ ≠ V9 := fun e => VL VZ rfl (by rw [e]; rfl)
 have V7 : VZ ≠ Wa := fun e => VM VZ rfl (by rw [e]; rfl)
 have V8 : V9 ≠ Wa := fun e => VN V9 rfl (by rw [e]; rfl)
 obtain ⟨E,B6,X0⟩ := bC ex E B6 X0
 refine dp 16 Kr ?_
 refine eN rfl (ah rfl rfl (by rw [aj]; kernel_rfl) VC (by rw [aj, aj]) (bh _)) rfl ?_
 rintro _ _ ⟨rfl, VC, cg⟩
 replace X0 := X0.aE cg VV
 refine ⟨X0, ?_⟩
 replace E := VP.ext X0
 replace B6 := VB.ext X0
 replace VD := VD.aE cg Om
 replace VE := VE.aE cg Om
 replace VF := VF.aE cg Om
 refine dp 17 Kr ?_
 refine eN rfl (ah rfl rfl (by rw [aj]; kernel_rfl) VD (by rw [aj, aj]) (bh _)) rfl ?_
 rintro _ _ ⟨rfl, VD, cg⟩
 replace X0 := X0.aE cg VW
 refine ⟨X0, ?_⟩
 replace E := VP.ext X0
 replace B6 := VB.ext X0
 replace VC := VC.aE cg Om
 replace VE := VE.aE cg Om
 replace VF := VF.aE cg Om
 refine dp 18 Kr ?_
 refine eN rfl (ah rfl rfl (by rw [aj]; kernel_rfl) VE (by rw [aj, aj]) (bh _)) rfl ?_
 rintro _ _ ⟨rfl, VE, cg⟩
 replace X0 := X0.aE cg VX
 refine ⟨X0, ?_⟩
 replace E := VP.ext X0
 replace B6 := VB.ext X0
 replace VC := VC.aE cg Om
 replace VD := VD.aE cg Om
 replace VF := VF.aE cg Om
 refine dp 19 Kr ?_
 refine eN rfl (ah rfl rfl (by rw [aj]; kernel_rfl) VF (by rw [aj, aj]) (bh _)) rfl ?_
 rintro _ _ ⟨rfl, VF, cg⟩
 replace X0 := X0.aE cg VY
 refine ⟨X0, ?_⟩
 replace E := VP.ext X0
 replace B6 := VB.ext X0
 replace VC := VC.aE cg Om
 replace VD := VD.aE cg Om
 replace VE := VE.aE cg Om
 refine eK Kr ?_
 refine aU ?_
 refine aC Kr 14 rfl ?_; intro Wy ex Wz
 obtain ⟨E,B6,VC,VD,VE,VF⟩ := iP ex E B6 VC VD VE VF
 refine my 0 rfl (cX rfl VC) ?_
 refine my 1 rfl (cX rfl VD) ?_
 refine my 3 rfl (cX rfl VE) ?_
 refine my 4 rfl (cX rfl VF) ?_
 refine my 6 rfl (cX rfl VD) ?_
 refine my 7 rfl (cX rfl VE) ?_
 refine my 9 rfl (cX rfl VC) ?_
 refine my 10 rfl (cX rfl VF) ?_
 refine bD 2 rfl func144 rfl (bB FF FG _) ?_
 rintro e _ ⟨c1, rfl, X1, ex⟩
 refine aU ?_
 obtain ⟨E,B6⟩ := ba ex E B6
 obtain ⟨x1, rfl, X1⟩ := X1.fe
 refine bD 5 rfl func144 rfl (bB FH FI _) ?_
 rintro e _ ⟨c2, rfl, X2, ex⟩
 refine aU ?_
 obtain ⟨E,B6⟩ := ba ex E B6
 obtain ⟨x2, rfl, X2⟩ := X2.fe
 refine bD 8 rfl func144 rfl (bB FG FH _) ?_
 rintro e _ ⟨c3, rfl, X3, ex⟩
 refine aU ?_
 obtain ⟨E,B6⟩ := ba ex E B6
 obtain ⟨x3, rfl, X3⟩ := X3.fe
 refine bD 11 rfl func144 rfl (bB FF FI _) ?_
 rintro e _ ⟨c4, rfl, X4, ex⟩
 refine aU ?_
 obtain ⟨E,B6⟩ := ba ex E B6
 obtain ⟨x4, rfl, X4⟩ := X4.fe
 refine dk 12 rfl (fun _ => aq rfl (cells := pc x1 x2 x3 x4 true) Kr) ?_
 refine bk 13 Kr ?_; refine bH rfl (ah rfl rfl (by rw [br]; kernel_rfl) B6 (by rw [br, br]) (jI _ _ _ _ _)) rfl ?_
 rintro _ _ ⟨rfl, D6, cg⟩
 refine ⟨.inl rfl, ?_⟩
 have E6 := E.aE cg Wh
 refine aU ?_
 refine hret rfl D6 (br _ _ _ _ _) ?_
 exact ⟨_, rfl, ⟨x1, x2, x3, x4, Ed.MU p q, rfl, X1, X2, X3, X4, Ed.Kb hp hq oP oQ⟩, E6⟩
end
section
attribute [local irreducible] Y Ef WL WC WK WQ WM cE WN WF dc
theorem PT.congr {cs : Array Value} {P Q : Fp.F × Fp.F} (h : PT cs P) (e : P = Q) : PT cs Q := e ▸ h
theorem PT.pp {cs : Array Value} {P : Fp.F × Fp.F} (h : PT cs P) : PP cs P := .inl h
theorem nE (w : World) : Ct 149 #[] w fun e w' => ∃ cs, e = .returned (.agg cs) ∧ PT cs Ed.O ∧ Ext w w' := by
 have E := Ext.refl w
 refine aH (s := 21) 4 func149 rfl rfl rfl underlying136 rfl Kr rfl ?_
 intro _ hret
 refine aU ?_
 intro w1 g0 (B0 : ao _ _ _ (pc zf zf zf zf false)) Vw ex
 replace E := E.ext ex
 refine au 4 ?_
 refine ak (aq rfl (cells := fe zf) Kr) ?_
 refine aB func143 rfl (de 1 _ Om) ?_
 rintro e _ ⟨_, rfl, F2, ex⟩
 refine aU ?_
 obtain ⟨E,B0⟩ := ba ex E B0
 obtain ⟨f2, rfl, F2⟩ := F2.fe
 refine aB func147 rfl (AG FE.zero F2 _) ?_
 rintro e _ ⟨c3, rfl, P3, ex⟩
 obtain ⟨E,B0⟩ := ba ex E B0
 refine au 1 ?_
 refine ag (ah rfl rfl (by rw [P3.size]; kernel_rfl) B0 (by rw [br, P3.size]) P3.one) rfl ?_
 rintro _ _ ⟨rfl, B4, cg⟩
 replace E := E.aE cg Vw
 refine aU ?_
 refine hret rfl B4 P3.size ?_
 exact ⟨c3, rfl, P3.congr rfl, E⟩
theorem JF (f1 f2 f3 f4 : Nat → Nat) (w : World) : Ct 148 #[.agg (pc f1 f2 f3 f4 true)] w fun e w' => e = .returned (.agg (pc f1 f2 f3 f4 true)) ∧ Ext w w' := by
 have E := Ext.refl w
 refine aH (s := 21) 8 func148 rfl rfl rfl underlying136 rfl Kr rfl ?_
 intro _ hret
 refine aU ?_
 intro w1 g1 (B1 : ao _ _ _ (pc f1 f2 f3 f4 true)) Vw ex
 replace E := E.ext ex
 have hz := E.size
 refine aU ?_
 intro w2 g2 (B2 : ao _ _ _ (pc zf zf zf zf false)) Vx ex
 obtain ⟨E,B1⟩ := ba ex E B1
 refine au 6 ?_
 refine ak (af rfl Tn.u rfl (B1.get (N9 _ _ _ _ _))) ?_
 refine au 3 ?_
 refine aX rfl rfl ?_
 refine au 4 ?_
 refine ak (Iu rfl B1) ?_
 refine ag (ah rfl rfl (by rw [br]; kernel_rfl) B2 (by rw [br, br]) (jI _ _ _ _ _)) rfl ?_
 rintro _ _ ⟨rfl, B4, cg⟩
 replace E := E.aE cg Om
 refine aU ?_
 refine hret rfl B4 (br _ _ _ _ _) ?_
 exact ⟨rfl, E⟩
theorem JI (f1 f2 f3 f4 : Nat → Nat) (w : World) : Ct 148 #[.agg (pc f1 f2 f3 f4 false)] w fun e w' => ∃ cs, e = .returned (.agg cs) ∧ PT cs Ed.O ∧ Ext w w' := by
 have E := Ext.refl w
 refine aH (s := 21) 8 func148 rfl rfl rfl underlying136 rfl Kr rfl ?_
 intro _ hret
 refine aU ?_
 intro w1 g1 (B1 : ao _ _ _ (pc f1 f2 f3 f4 false)) Vw ex
 replace E := E.ext ex
 have hz := E.size
 refine aU ?_
 intro w2 g2 (B2 : ao _ _ _ (pc zf zf zf zf false)) Vx ex
 obtain ⟨E,B1⟩ := ba ex E B1
 refine au 6 ?_
 refine ak (af rfl Tn.u rfl (B1.get (N9 _ _ _ _ _))) ?_
 refine au 3 ?_
 refine bR rfl rfl ?_
 refine aU ?_
 refine aB func149 rfl (nE _) ?_
 rintro e _ ⟨c3, rfl, P3, ex⟩
 obtain ⟨E,B2⟩ := ba ex E B2
 refine au 1 ?_
 refine ag (ah rfl rfl (by rw [P3.size]; kernel_rfl) B2 (by rw [br, P3.size]) P3.one) rfl ?_
 rintro _ _ ⟨rfl, B4, cg⟩
 replace E := E.aE cg Om
 refine aU ?_
 refine hret rfl B4 P3.size ?_
 exact ⟨c3, rfl, P3, E⟩
theorem tu {cs : Array Value} {P : Fp.F × Fp.F} (h : PP cs P) (w : World) : Ct 148 #[.agg cs] w fun e w' => ∃ ds, e = .returned (.agg ds) ∧ PT ds P ∧ Ext w w' := by
 rcases h with ⟨f1, f2, f3, f4, q, rfl, h⟩ | ⟨f1, f2, f3, f4, rfl, rfl⟩
 ·exact (JF f1 f2 f3 f4 w).mono fun e w' ⟨h1, h2⟩ => ⟨_, h1, ⟨f1, f2, f3, f4, q, rfl, h⟩, h2⟩
 ·exact JI f1 f2 f3 f4 w
theorem CA {f : Nat → Nat} {y : Fp.F} (Yy : FE (fe f) y) (w : World) :
  Ct 146 #[.agg (fe f)] w fun e w' => ∃ g, e = .returned (.tuple #[.agg (fe g), .bool (decide (Fp.ry (Ed.sq y)))]) ∧ FE (fe g) (if Fp.ry (Ed.sq y) then Fp.root (Ed.sq y) else 0) ∧ Ext w w' := by
 have E := Ext.refl w
 refine dn (s := 5) 20 func146 rfl rfl rfl underlying134 rfl Kr rfl ?_
 intro _ hret
 refine aU ?_
 intro w1 g1 (B1 : ao _ _ _ (fe f)) VC ex
 replace E := E.ext ex
 have hz := E.size
 refine aU ?_
 intro w2 g2 (B2 : ao _ _ _ (fe zf)) VD ex
 obtain ⟨E,B1⟩ := ba ex E B1
 refine au 5 ?_
 refine ak (cX rfl B1) ?_
 refine aB func205 rfl (bX Yy _) ?_
 rintro e _ ⟨_, rfl, F3, ex⟩
 obtain ⟨E,B2⟩ := ba ex E B2
 obtain ⟨f3, rfl, F3⟩ := F3.fe
 have VE := B2.lt
 refine aU ?_
 intro w4 g4 (B4 : ao _ _ _ (fe zf)) VF ex
 obtain ⟨E,B2⟩ := ba ex E B2
 refine ag (ah rfl rfl (by rw [aj]; kernel_rfl) B4 (by rw [aj, aj]) (bh _)) rfl ?_
 rintro _ _ ⟨rfl, D4, cg⟩
 replace E := E.aE cg Om; replace B2 := B2.aE cg Om
 refine aU ?_
 refine aC Kr 15 rfl ?_; intro VG ex VH
 obtain ⟨E,B2,D4⟩ := bC ex E B2 D4
 refine my 0 rfl (cX rfl D4) ?_
 refine my 4 rfl (cX rfl D4) ?_
 refine bD 1 rfl func143 rfl (de 1 _ Om) ?_
 rintro e _ ⟨_, rfl, F6, ex⟩
 obtain ⟨E,B2⟩ := ba ex E B2
 refine aU ?_
 refine bD 2 rfl func206 rfl (fz F3 F6 _) ?_
 rintro e _ ⟨_, rfl, F7, ex⟩
 obtain ⟨E,B2⟩ := ba ex E B2
 refine aU ?_
 refine bD 3 rfl func150 rfl (yd _) ?_
 rintro e _ ⟨_, rfl, F8, ex⟩
 obtain ⟨E,B2⟩ := ba ex E B2
 refine aU ?_
 refine bD 5 rfl func144 rfl (bB F8 F3 _) ?_
 rintro e _ ⟨_, rfl, F9, ex⟩
 obtain ⟨E,B2⟩ := ba ex E B2
 refine aU ?_
 refine bD 6 rfl func143 rfl (de 1 _ Om) ?_
 rintro e _ ⟨_, rfl, Vx, ex⟩
 obtain ⟨E,B2⟩ := ba ex E B2
 refine aU ?_
 refine bD 7 rfl func151 rfl (ez F9 Vx _) ?_
 rintro e _ ⟨_, rfl, Vy, ex⟩
 obtain ⟨E,B2⟩ := ba ex E B2
 refine aU ?_
 refine bD 8 rfl func145 rfl (jg Vy _) ?_
 rintro e _ ⟨_, rfl, Vz, ex⟩
 obtain ⟨E,B2⟩ := ba ex E B2
 refine aU ?_
 refine bD 9 rfl func144 rfl (bB F7 Vz _) ?_
 rintro e _ ⟨_, rfl, VA, ex⟩
 obtain ⟨E,B2⟩ := ba ex E B2
 refine aU ?_
 refine bD 10 rfl func207 rfl (BG VA _) ?_
 rintro e _ ⟨_, rfl, Vw, ex⟩
 obtain ⟨E,B2⟩ := ba ex E B2
 obtain ⟨f14, rfl, Vw⟩ := Vw.fe
 refine zm [11, 12] ?_
 refine bk 13 Kr ?_; refine bH rfl (ah rfl rfl (by rw [aj]; kernel_rfl) B2 (by rw [aj, aj]) (bh _)) rfl ?_
 rintro _ _ ⟨rfl, VB, cg⟩
 refine ⟨.inl rfl, ?_⟩
 replace E := E.aE cg Om
 refine zm [14] ?_
 refine hret rfl rfl VB (aj _) ?_
 exact ⟨f14, rfl, Vw, E⟩
end
end
section
open Go.RowKit Tryz
section
attribute [local irreducible] Y Ef WL WC WK WQ WM cE WN WF dc
theorem PP.pc {cs : Array Value} {P : Fp.F × Fp.F} (h : PP cs P) : ∃ f1 f2 f3 f4 b, cs = Go.Proofs.YtgfafidlkldeaaaGreat.pc f1 f2 f3 f4 b ∧ PP (Go.Proofs.YtgfafidlkldeaaaGreat.pc f1 f2 f3 f4 b) P := by
 have h0 := h
 rcases h with ⟨f1, f2, f3, f4, q, rfl, h⟩ | ⟨f1, f2, f3, f4, rfl, h⟩
 ·exact ⟨f1, f2, f3, f4, true, rfl, h0⟩
 ·exact ⟨f1, f2, f3, f4, false, rfl, h0⟩
theorem sM : (if Fp.ry (Ed.sq (Fp.of 4 * Fp.inv (Fp.of 5))) then Fp.root (Ed.sq (Fp.of 4 * Fp.inv (Fp.of 5))) else 0) = Ed.B.1 ∧ Fp.of 4 * Fp.inv (Fp.of 5) = Ed.B.2 := by
 have h1 : Fp.of 4 * Fp.inv (Fp.of 5) = Ed.B.2 := (Ed.uJ (by decide +kernel) (by decide +kernel)).symm
 refine ⟨?_, h1⟩
 rw [h1]
 have h2 : Ed.B.1 * Ed.B.1 = Ed.sq Ed.B.2 := Ed.Mp.1 Ed.No
 have h3 := Fp.kf h2
 rw [if_pos h3]
 have h4 := Fp.Kf h3
 have h5 := Fp.BA (Ed.sq Ed.B.2)
 rcases Fp.Ci (h4.trans h2.symm) with e | e
 ·exact e
 ·exfalso
  rw [e] at h5
  have : (-Ed.B.1).val % 2 = 1 := by decide +kernel
  omega
theorem sS (w : World) : Ct 70 #[] w fun e w' => ∃ cs, e = .returned (.agg cs) ∧ PT cs Ed.B ∧ Ext w w' := by
 have E := Ext.refl w
 refine aH (s := 21) 16 func70 rfl rfl rfl underlying136 rfl Kr rfl ?_
 intro _ hret
 refine aU ?_
 intro w1 g0 (B0 : ao _ _ _ (pc zf zf zf zf false)) Vy ex
 replace E := E.ext ex
 refine aU ?_
 refine aB func143 rfl (de 4 _ Om) ?_
 rintro e _ ⟨_, rfl, F2, ex⟩
 obtain ⟨E,B0⟩ := ba ex E B0
 refine aU ?_
 refine aB func143 rfl (de 5 _ Om) ?_
 rintro e _ ⟨_, rfl, F3, ex⟩
 obtain ⟨E,B0⟩ := ba ex E B0
 refine aU ?_
 refine aB func145 rfl (jg F3 _) ?_
 rintro e _ ⟨_, rfl, F4, ex⟩
 obtain ⟨E,B0⟩ := ba ex E B0
 refine aU ?_
 refine aB func144 rfl (bB F2 F4 _) ?_
 rintro e _ ⟨_, rfl, F5, ex⟩
 obtain ⟨E,B0⟩ := ba ex E B0
 obtain ⟨f5, rfl, F5⟩ := F5.fe
 have Vx := B0.lt
 refine aU ?_
 intro w6 g6 (B6 : ao _ _ _ (fe zf)) Vz ex
 obtain ⟨E,B0⟩ := ba ex E B0
 refine ag (ah rfl rfl (by rw [aj]; kernel_rfl) B6 (by rw [aj, aj]) (bh _)) rfl ?_
 rintro _ _ ⟨rfl, D6, cg⟩
 replace E := E.aE cg Om; replace B0 := B0.aE cg Om
 refine au 4 ?_
 refine ak (cX rfl D6) ?_
 refine aB func146 rfl (CA F5 _) ?_
 rintro e _ ⟨_, rfl, F8, ex⟩
 obtain ⟨E,B0,D6⟩ := bC ex E B0 D6
 have Vx := B0.lt; have VA := D6.lt
 refine aU ?_
 intro w9 g9 (B9 : ao _ _ _ (fe zf)) VB ex
 obtain ⟨E,B0,D6⟩ := bC ex E B0 D6
 refine ag (ah rfl rfl (by rw [aj]; kernel_rfl) B9 (by rw [aj, aj]) (bh _)) rfl ?_
 rintro _ _ ⟨rfl, D9, cg⟩
 replace E := E.aE cg Om; replace B0 := B0.aE cg Om; replace D6 := D6.aE cg Om
 refine au 5 ?_
 refine ak (cX rfl D9) ?_
 refine ak (cX rfl D6) ?_
 refine aB func147 rfl (AG F8 F5 _) ?_
 rintro e _ ⟨c11, rfl, Vw, ex⟩
 obtain ⟨E,B0⟩ := ba ex E B0
 refine au 1 ?_
 refine ag (ah rfl rfl (by rw [Vw.size]; kernel_rfl) B0 (by rw [br, Vw.size]) Vw.one) rfl ?_
 rintro _ _ ⟨rfl, D0, cg⟩
 replace E := E.aE cg Om
 refine aU ?_
 refine hret rfl D0 Vw.size ?_
 exact ⟨c11, rfl, Vw.congr (by rw [sM.1, sM.2]), E⟩
theorem PT.get {cs : Array Value} {P : Fp.F × Fp.F} (h : PT cs P) : ∃ f1 f2 f3 f4, cs = pc f1 f2 f3 f4 true ∧ ∃ q : Ed.Q4, FE (fe f1) q.x ∧ FE (fe f2) q.y ∧ FE (fe f3) q.z ∧ FE (fe f4) q.t ∧ Ed.pP q P := by
 obtain ⟨f1, f2, f3, f4, q, rfl, h⟩ := h; exact ⟨f1, f2, f3, f4, rfl, q, h⟩
end
section
attribute [local irreducible] Y Ef WL WC WK WQ WM cE WN WF dc
end
section
attribute [local irreducible] Y Ef WL WC WK WQ WM cE WN WF dc
namespace Ed
open Fp
theorem CY {l : Lb} (h : l.length = 32) (x : UInt8) : num (l.set 31 x) = num l % 256 ^ 31 + 256 ^ 31 * x.toNat := by
 have e : l.set 31 x = l.take 31 ++ [x] := by
  rw [List.set_eq_take_append_cons_drop, if_pos Om, List.drop_of_length_le Om]
 have hl : (l.take 31).length = 31 := by rw [List.length_take]; omega
 rw [e, gV, uR _ _ Om, hl]
 simp only [num]
 omega
theorem Lk : top = 256 ^ 31 * 128 := by decide +kernel
theorem AB {x : Nat} (h : x < top) : ((le 32 x).getD 31 0).toNat < 128 ∧ x / 256 ^ 31 = ((le 32 x).getD 31 0).toNat := by
 have hl : (le 32 x).length = 32 := cS 32 x
 have hn : num (le 32 x) = x := xU 32 x (by rw [← LP]; omega)
 have h1 := qp (le 32 x) 31 Om
 have e : (le 32 x).drop 31 = [(le 32 x).getD 31 0] := by
  rw [List.drop_eq_getElem_cons Om, List.drop_of_length_le Om, List.getD_eq_getElem?_getD, List.getElem?_eq_getElem Om]; rfl
 rw [e, hn] at h1
 have h2 : ((le 32 x).getD 31 0).toNat = x / 256 ^ 31 := by rw [← h1]; simp [num]
 exact ⟨by rw [h2]; exact Nat.div_lt_of_lt_mul (by rw [← Lk]; exact h), h2.symm⟩
theorem DH {P : F × F} (h : ¬ P.1.val % 2 = 1) : le 32 P.2.val = enc P := by
 unfold enc
 rw [show P.1.val % 2 = 0 by omega]; rfl
theorem Ki {P : F × F} (h : P.1.val % 2 = 1) {x : Nat} (hx : x = ((le 32 P.2.val).getD 31 0).toNat) : (le 32 P.2.val).set 31 (UInt8.ofNat (x + 128)) = enc P := by
 have hy := P.2.isLt
 have hpt := Dp
 obtain ⟨h1, h2⟩ := AB (x := P.2.val) Om
 have hl : (le 32 P.2.val).length = 32 := cS 32 _
 have hn : num (le 32 P.2.val) = P.2.val := xU 32 _ (by rw [← LP]; omega)
 refine AI (by rw [List.length_set, hl, ig]) ?_
 rw [CY hl, KE, hn, h, UInt8.toNat_ofNat', Lk, Nat.mod_eq_of_lt (show x + 128 < 2 ^ 8 by omega)]
 have := Nat.mod_add_div P.2.val (256 ^ 31)
 rw [h2, ← hx] at this
 omega
end Ed
theorem OE {q : Ed.Q4} {P : Fp.F × Fp.F} (h : Ed.pP q P) : q.x * Fp.inv q.z = P.1 := (Ed.uJ h.1 h.2.1).symm
theorem NL {q : Ed.Q4} {P : Fp.F × Fp.F} (h : Ed.pP q P) : q.y * Fp.inv q.z = P.2 := (Ed.uJ h.1 h.2.2.1).symm
theorem yB {n : Nat} (h : n < 256) : ((UInt8.ofNat n).toNat : Int) = (n : Int) := by rw [UInt8.toNat_ofNat']; omega
theorem N5 : ∀ x : Fin 128, bits .or .u8 ((x.val : Nat) : Int) 128 = ((x.val + 128 : Nat) : Int) := by decide +kernel
theorem rr {cs : Array Value} {P : Fp.F × Fp.F} (hP : PP cs P) (w : World) :
  Ct 73 #[.agg cs] w fun e w' => ∃ g, e = .returned (.slice (some ⟨g, 0, none⟩) 32 32) ∧ w.heap.size ≤ g ∧ ao w' g 5 (cT (Ed.enc P)) ∧ Ext w w' := by
 obtain ⟨p1, p2, p3, p4, b, rfl, hP⟩ := hP.pc
 have hpt := Ed.Dp
 have hy := P.2.isLt
 obtain ⟨x, hx⟩ : ∃ x, x = ((Fp.le 32 P.2.val).getD 31 0).toNat := ⟨_, rfl⟩
 have Vx : x < 128 := hx ▸ (Ed.AB (x := P.2.val) Om).1
 have hle : (Fp.le 32 P.2.val).length = 32 := Fp.cS 32 _
 have E := Ext.refl w
 refine ai 26 func73 rfl rfl rfl rfl ?_
 intro _ hret
 refine aU ?_
 intro w1 g1 (B1 : ao _ _ _ (pc p1 p2 p3 p4 b)) Vy ex
 replace E := E.ext ex
 refine au 5 ?_
 refine ak (Iu rfl B1) ?_
 refine aB func148 rfl (tu hP _) ?_
 rintro e _ ⟨_, rfl, P3, ex⟩
 refine au 1 ?_
 obtain ⟨E,B1⟩ := ba ex E B1
 obtain ⟨f1, f2, f3, f4, rfl, q, F1, F2, F3, F4, R⟩ := P3.get
 refine ag (ah rfl rfl (by rw [br]; kernel_rfl) B1 (by rw [br, br]) (jI _ _ _ _ _)) rfl ?_
 rintro _ _ ⟨rfl, D1, cg⟩
 replace E := E.aE cg Om
 refine au 5 ?_
 refine ak (IQ rfl D1) ?_
 refine aB func145 rfl (jg F3 _) ?_
 rintro e _ ⟨_, rfl, FI, ex⟩
 obtain ⟨E,D1⟩ := ba ex E D1
 obtain ⟨fi, rfl, FI⟩ := FI.fe
 have hl := D1.lt
 refine aU ?_
 intro w6 g3 (B3 : ao _ _ _ (fe zf)) Vz ex
 obtain ⟨E,D1⟩ := ba ex E D1
 refine ag (ah rfl rfl (by rw [aj]; kernel_rfl) B3 (by rw [aj, aj]) (bh _)) rfl ?_
 rintro _ _ ⟨rfl, D3, cg⟩
 replace E := E.aE cg Om; replace D1 := D1.aE cg Om
 refine au 5 ?_
 refine ak (GY rfl D1) ?_
 refine ak (cX rfl D3) ?_
 refine aB func144 rfl (bB F2 FI _) ?_
 rintro e _ ⟨_, rfl, FY, ex⟩
 refine aU ?_
 obtain ⟨E,D1,D3⟩ := bC ex E D1 D3
 rw [NL R] at FY
 have VA := E.size
 refine aB func155 rfl (jB FY _) ?_
 rintro e _ ⟨g9, rfl, _, B9, ex⟩
 obtain ⟨E,D1,D3⟩ := bC ex E D1 D3
 refine au 8 ?_
 refine ak (Hn rfl D1) ?_
 refine ak (cX rfl D3) ?_
 refine aB func144 rfl (bB F1 FI _) ?_
 rintro e _ ⟨_, rfl, FX, ex⟩
 refine aU ?_
 obtain ⟨E,B9⟩ := ba ex E B9
 rw [OE R] at FX
 refine aB func156 rfl (gW FX _) ?_
 rintro e _ ⟨rfl, ex⟩
 obtain ⟨E,B9⟩ := ba ex E B9
 refine aU ?_
 refine al rfl (fun Vw => ?_) (fun Vw => ?_)
 ·refine au 2 ?_
  refine ak (aw rfl rfl Tn.u Kr (j := 31) rfl Om) ?_
  refine ak (af rfl Tn.u rfl (B9.get (jU (i := 31) Om))) ?_
  refine ak (iH rfl rfl (show bits .or .u8 _ 128 = ((x + 128 : Nat) : Int) by rw [← hx]; exact N5 ⟨x, Vx⟩)) ?_
  refine ak (aw rfl rfl Tn.u Kr (j := 31) rfl Om) ?_
  rw [← yB (n := x + 128) Om]
  refine ag (av rfl rfl rfl Kr B9 (by rw [aW]; omega)) rfl ?_
  rintro _ _ ⟨rfl, D9, cg⟩
  replace E := E.aE cg Om; rw [lu, Ed.Ki Vw hx] at D9
  refine aU ?_
  refine hret rfl ?_
  exact ⟨g9, rfl, by omega, D9, E⟩
 ·refine aU ?_
  refine hret rfl ?_
  exact ⟨g9, rfl, by omega, B9.congr (by rw [Ed.DH Vw]), E⟩
end
end
section
open Go.RowKit Tryz
section
attribute [local irreducible] Y Ef WL WC WK WQ WM cE WN WF dc
namespace Ed
open Fp
end Ed
end
section
attribute [local irreducible] Y Ef WL WC WK WQ WM cE WN WF dc
end
end
end Go.Proofs.YtgfafidlkldeaaaGreat
