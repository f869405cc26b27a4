/- The ladder's step and product on field elements: what dh's step and product hand back. -/
import Derived.Test.YtgfafidlkldeaaaGreatFieldA
import Derived.Test.YtgfafidlkldeaaaGreatFieldS
import Derived.Test.YtgfafidlkldeaaaGreatFieldQ
import Derived.Test.YtgfafidlkldeaaaGreatVc7
import Derived.Test.YtgfafidlkldeaaaGreatAu
set_option linter.unusedVariables false
set_option linter.unusedSimpArgs false
set_option maxHeartbeats 4000000
set_option maxRecDepth 4000
namespace Go.Proofs.YtgfafidlkldeaaaGreat
section
section
namespace Ed
open Fp
theorem PF : (of 121666) ≠ 0 := by decide +kernel
theorem NJ : d * of 121666 = - of 121665 := by decide +kernel
end Ed
end
section
namespace Ed
open Fp
def top : Nat := 57896044618658097711785492504343953926634992332820282019728792003956564819968
theorem Dp : p < top := by decide +kernel
theorem LP : 2 * top = 256 ^ 32 := by decide +kernel
theorem AI : ∀ {a b : List UInt8}, a.length = b.length → num a = num b → a = b
  | [], [], _, _ => rfl
  | [], _ :: _, h, _ => by simp at h
  | _ :: _, [], h, _ => by simp at h
  | x :: a, y :: b, h, e => by
    simp only [num] at e
    have hx := x.toNat_lt; have hy := y.toNat_lt
    have h1 : x.toNat = y.toNat := by omega
    have h2 : num a = num b := by omega
    rw [UInt8.toNat_inj.1 h1, AI (by simpa using h) h2]
def sq (y : F) : F := (y * y - 1) * inv (d * (y * y) + 1)
theorem Nq (e : F) : e * (0 * 0) + 1 = 1 := by
 have h3 : e * (0 * 0) = 0 := by grind
 rw [h3]; decide +kernel
theorem Hv (y : F) : d * (y * y) + 1 ≠ 0 := fun h => by
 have h1 : im * im = d * (y * y) := by rw [LK]; generalize d = D at *; grind
 have h2 := GZ h1
 subst h2
 rw [Nq] at h
 exact mw h
theorem L7 (y : F) : sq y * (d * (y * y) + 1) = y * y - 1 := div_mul (Hv y)
theorem Mp {x y : F} : On (x, y) ↔ x * x = sq y := by
 have h := L7 y
 have hp := Hv y
 unfold On
 simp only
 generalize d = D at *
 generalize sq y = s at *
 constructor
 ·intro h1
  refine cancel hp ?_
  clear hp
  grind
 ·intro h1
  subst h1
  clear hp
  grind
def enc (P : F × F) : List UInt8 := le 32 (P.2.val + top * (P.1.val % 2))
theorem ig (P : F × F) : (enc P).length = 32 := cS ..
theorem MX (P : F × F) : P.2.val + top * (P.1.val % 2) < 2 * top := by
 have h1 := P.2.isLt; have h2 := Dp
 have := Nat.mod_lt P.1.val (show 0 < 2 by omega)
 rcases (show P.1.val % 2 = 0 ∨ P.1.val % 2 = 1 by omega) with h | h <;> rw [h] <;> omega
theorem KE (P : F × F) : num (enc P) = P.2.val + top * (P.1.val % 2) := xU 32 _ (by rw [← LP]; exact MX P)
end Ed
end
end
section
open Go.RowKit Tryz
attribute [local irreducible] Y Ef WL WC WK WQ WM cE WN WF dc
theorem FE.fe {cs : Array Value} {a : Fp.F} (h : FE cs a) : ∃ f, cs = fe f ∧ FE (fe f) a := by
 obtain ⟨f, rfl, h1, h2⟩ := h; exact ⟨f, rfl, f, rfl, h1, h2⟩
def pr (f g : Nat → Nat) : Array Value := fe f ++ fe g
theorem cn (f g : Nat → Nat) : (pr f g).size = 10 := by rw [pr, Array.size_append, aj, aj]
theorem kx (f g : Nat → Nat) : (pr f g).all (·.oneCell') = true := by rw [pr, Array.all_append, bh, bh]; rfl
theorem MV (f g : Nat → Nat) (j : Nat) (v : Value) (h : (fe f)[j]? = some v) : (pr f g)[j]? = some v := by
 rw [pr, Array.getElem?_append_left (Array.getElem?_eq_some_iff.1 h).1]; exact h
theorem Nm (f g : Nat → Nat) (j : Nat) (v : Value) (h : (fe g)[j]? = some v) : (pr f g)[5 + j]? = some v := by
 rw [pr, Array.getElem?_append_right (by rw [aj]; omega), aj, Nat.add_sub_cancel_left]; exact h
section
variable {L : List (Nat × Value)} {w : World} {ty e : TypeId} {x : Operand} {g : Nat} {f h : Nat → Nat}
theorem cX (hx : ev L x = some (.pointer (some ⟨g, 0, none⟩))) (B : ao w g e (fe f)) : Y Tryz.prog L w (.load 134 x) ty (.agg (fe f)) := aY hx underlying134 rfl (by rw [aj]; kernel_rfl) B
theorem Iv (hx : ev L x = some (.pointer (some ⟨g, 0, none⟩))) (B : ao w g e (pr f h)) : Y Tryz.prog L w (.load 300 x) ty (.agg (pr f h)) := aY hx underlying300 rfl (by rw [cn]; kernel_rfl) B
theorem sY (hx : ev L x = some (.pointer (some ⟨g, 0, none⟩))) (B : ao w g e (pr f h)) : Y Tryz.prog L w (.load 134 x) ty (.agg (fe f)) :=
 fL hx underlying134 rfl (by rw [aj]; kernel_rfl) fun j v hv => by rw [Addr.add_plain, Nat.zero_add, B.cell]; exact MV f h j v hv
theorem sj (hx : ev L x = some (.pointer (some ⟨g, 5, none⟩))) (B : ao w g e (pr f h)) : Y Tryz.prog L w (.load 134 x) ty (.agg (fe h)) :=
 fL hx underlying134 rfl (by rw [aj]; kernel_rfl) fun j v hv => by rw [Addr.add_plain, B.cell]; exact Nm f h j v hv
end
def Ii (px pz qx qz u : Fp.F) : (Fp.F × Fp.F) × (Fp.F × Fp.F) :=
 let a := px + pz; let b := px - pz; let c := qx + qz; let d := qx - qz
 let da := d * a; let cb := c * b; let aa := a * a; let bb := b * b; let e := aa - bb
 ((aa * bb, e * (aa + e * Fp.of 121665)), ((da + cb) * (da + cb), u * ((da - cb) * (da - cb))))
theorem qn (p1 p2 q1 q2 f5 : Nat → Nat) (px pz qx qz u : Fp.F) (w : World) (P1 : FE (fe p1) px) (P2 : FE (fe p2) pz) (Q1 : FE (fe q1) qx) (Q2 : FE (fe q2) qz) (U : FE (fe f5) u) :
  Ct 259 #[.agg (pr p1 p2), .agg (pr q1 q2), .agg (fe f5)] w fun e w' => ∃ f1 f2 f3 f4, e = .returned (.tuple #[.agg (pr f1 f2), .agg (pr f3 f4)]) ∧ FE (fe f1) (Ii px pz qx qz u).1.1 ∧ FE (fe f2) (Ii px pz qx qz u).1.2 ∧ FE (fe f3) (Ii px pz qx qz u).2.1 ∧ FE (fe f4) (Ii px pz qx qz u).2.2 ∧ Ext w w' := by
 have E := Ext.refl w
 refine yN (s := 10) (s' := 10) 72 func259 rfl rfl rfl underlying300 rfl Kr underlying300 rfl Kr rfl ?_
 intro _ hret
 refine aU ?_
 intro w1 g3 (B3 : ao _ _ _ (pr p1 p2)) W8 ex
 replace E := E.ext ex
 refine aU ?_
 intro w2 g4 (B4 : ao _ _ _ (pr q1 q2)) W9 ex
 obtain ⟨E,B3⟩ := ba ex E B3
 refine aU ?_
 intro w3 g5 (B5 : ao _ _ _ (fe f5)) Xa ex
 obtain ⟨E,B3,B4⟩ := bC ex E B3 B4
 have E0 := E
 refine aU ?_
 intro w4 g6 (B6 : ao _ _ _ (pr (fun _ => 0) (fun _ => 0))) WX ex
 obtain ⟨E,B3,B4,B5⟩ := bO ex E B3 B4 B5
 have WY : w.heap.size ≤ g6 := Nat.le_trans E0.size WX
 have E1 := E; have WZ := B6
 refine aU ?_
 intro w5 g7 (B7 : ao _ _ _ (pr (fun _ => 0) (fun _ => 0))) W0 ex
 obtain ⟨E,B3,B4,B5,B6⟩ := er ex E B3 B4 B5 B6
 have W3 : w.heap.size ≤ g7 := Nat.le_trans E1.size W0; have WS : g6 ≠ g7 := by have := WZ.lt; omega
 refine aU ?_
 refine dH Kr 14 rfl ?_; intro W4 ex Xb
 obtain ⟨E,B3,B4,B5,B6,B7⟩ := iP ex E B3 B4 B5 B6 B7
 have VP := E
 have VX := B3
 have VI := B4
 have VE := B5
 have VF := B6
 have VG := B7
 have X0 := Ext.refl W4
 refine zm [0] ?_
 refine dL 1 rfl Kr (sY rfl VX) rfl ?_
 refine zm [2] ?_
 refine dL 3 rfl Kr (sj rfl VX) rfl ?_
 refine zm [5] ?_
 refine dL 6 rfl Kr (sY rfl VX) rfl ?_
 refine zm [7] ?_
 refine dL 8 rfl Kr (sj rfl VX) rfl ?_
 refine dJ (fl := [rz 10 8 134 (fe (fun _ => 0)), rz 11 9 134 (fe (fun _ => 0))]) rfl ?_
 refine ll 4 (some 21) func151 ?_
 intro _ ex exb
 obtain ⟨E,B4,B5,B6,B7,X0⟩ := iP ex E B4 B5 B6 B7 X0
 refine ⟨_, (ez P1 P2 _), ?_⟩
 rintro e _ ⟨_, rfl, F8, ex⟩
 refine ⟨_, rfl, ex, ?_⟩
 obtain ⟨E,B4,B5,B6,B7,X0⟩ := iP ex E B4 B5 B6 B7 X0
 obtain ⟨f8, rfl, F8⟩ := F8.fe
 refine ll 9 (some 26) func206 ?_
 intro _ ex exb
 obtain ⟨E,B4,B5,B6,B7,X0⟩ := iP ex E B4 B5 B6 B7 X0
 refine ⟨_, (fz P1 P2 _), ?_⟩
 rintro e _ ⟨_, rfl, F9, ex⟩
 refine ⟨_, rfl, ex, ?_⟩
 obtain ⟨E,B4,B5,B6,B7,X0⟩ := iP ex E B4 B5 B6 B7 X0
 obtain ⟨f9, rfl, F9⟩ := F9.fe
 refine ji ⟨(bQ (cv rfl Kr) (bQ (cv rfl Kr) aP)), by decide, by decide, (bQ (⟨rfl, by decide⟩) (bQ (⟨rfl, by decide⟩) aP)), (bQ (bm Kr) (bQ (bm Kr) aP))⟩ Kr ?_
 rintro _ _ _ ex ⟨⟨g8, rfl, Vy⟩, Wn⟩ ⟨⟨g9, rfl, Vz⟩, Wo⟩ VQ
 replace Wn := Wn g8 rfl
 replace Wo := Wo g9 rfl
 have Wi : g8 ≠ g9 := fun e => VQ g8 rfl (by rw [e]; rfl)
 obtain ⟨E,B4,B5,B6,B7,X0⟩ := iP ex E B4 B5 B6 B7 X0
 refine dp 12 Kr ?_
 refine eN rfl (ah rfl rfl (by rw [aj]; kernel_rfl) Vy (by rw [aj, aj]) (bh _)) rfl ?_
 rintro _ _ ⟨rfl, Vy, cg⟩
 replace X0 := X0.aE cg Wn
 refine ⟨X0, ?_⟩
 replace E := VP.ext X0
 replace B4 := VI.ext X0
 replace B5 := VE.ext X0
 replace B6 := VF.ext X0
 replace B7 := VG.ext X0
 replace Vz := Vz.aE cg Om
 refine dp 13 Kr ?_
 refine eN rfl (ah rfl rfl (by rw [aj]; kernel_rfl) Vz (by rw [aj, aj]) (bh _)) rfl ?_
 rintro _ _ ⟨rfl, Vz, cg⟩
 replace X0 := X0.aE cg Wo
 refine ⟨X0, ?_⟩
 replace E := VP.ext X0
 replace B4 := VI.ext X0
 replace B5 := VE.ext X0
 replace B6 := VF.ext X0
 replace B7 := VG.ext X0
 replace Vy := Vy.aE cg Om
 refine eK Kr ?_
 refine aU ?_
 refine dH Kr 14 rfl ?_; intro W5 ex Xc
 obtain ⟨E,B4,B5,B6,B7,Vy,Vz⟩ := iQ ex E B4 B5 B6 B7 Vy Vz
 have VP := E
 have VI := B4
 have VE := B5
 have VF := B6
 have VG := B7
 have VC := Vy
 have VD := Vz
 have X0 := Ext.refl W5
 refine zm [0] ?_
 refine dL 1 rfl Kr (sY rfl VI) rfl ?_
 refine zm [2] ?_
 refine dL 3 rfl Kr (sj rfl VI) rfl ?_
 refine zm [5] ?_
 refine dL 6 rfl Kr (sY rfl VI) rfl ?_
 refine zm [7] ?_
 refine dL 8 rfl Kr (sj rfl VI) rfl ?_
 refine dJ (fl := [rz 10 10 134 (fe (fun _ => 0)), rz 11 11 134 (fe (fun _ => 0))]) rfl ?_
 refine ll 4 (some 31) func151 ?_
 intro _ ex exb
 obtain ⟨E,B5,B6,B7,Vy,Vz,X0⟩ := iQ ex E B5 B6 B7 Vy Vz X0
 refine ⟨_, (ez Q1 Q2 _), ?_⟩
 rintro e _ ⟨_, rfl, Wq, ex⟩
 refine ⟨_, rfl, ex, ?_⟩
 obtain ⟨E,B5,B6,B7,Vy,Vz,X0⟩ := iQ ex E B5 B6 B7 Vy Vz X0
 obtain ⟨f10, rfl, Wq⟩ := Wq.fe
 refine ll 9 (some 36) func206 ?_
 intro _ ex exb
 obtain ⟨E,B5,B6,B7,Vy,Vz,X0⟩ := iQ ex E B5 B6 B7 Vy Vz X0
 refine ⟨_, (fz Q1 Q2 _), ?_⟩
 rintro e _ ⟨_, rfl, Wr, ex⟩
 refine ⟨_, rfl, ex, ?_⟩
 obtain ⟨E,B5,B6,B7,Vy,Vz,X0⟩ := iQ ex E B5 B6 B7 Vy Vz X0
 obtain ⟨f11, rfl, Wr⟩ := Wr.fe
 refine ji ⟨(bQ (cv rfl Kr) (bQ (cv rfl Kr) aP)), by decide, by decide, (bQ (⟨rfl, by decide⟩) (bQ (⟨rfl, by decide⟩) aP)), (bQ (bm Kr) (bQ (bm Kr) aP))⟩ Kr ?_
 rintro _ _ _ ex ⟨⟨Ws, rfl, VJ⟩, VY⟩ ⟨⟨WT, rfl, VK⟩, VZ⟩ VL
 replace VY := VY Ws rfl
 replace VZ := VZ WT rfl
 have Wc : Ws ≠ WT := fun e => VL Ws rfl (by rw [e]; rfl)
 obtain ⟨E,B5,B6,B7,Vy,Vz,X0⟩ := iQ ex E B5 B6 B7 Vy Vz X0
 refine dp 12 Kr ?_
 refine eN rfl (ah rfl rfl (by rw [aj]; kernel_rfl) VJ (by rw [aj, aj]) (bh _)) rfl ?_
 rintro _ _ ⟨rfl, VJ, cg⟩
 replace X0 := X0.aE cg VY
 refine ⟨X0, ?_⟩
 replace E := VP.ext X0
 replace B5 := VE.ext X0
 replace B6 := VF.ext X0
 replace B7 := VG.ext X0
 replace Vy := VC.ext X0
 replace Vz := VD.ext X0
 replace VK := VK.aE cg Om
 refine dp 13 Kr ?_
 refine eN rfl (ah rfl rfl (by rw [aj]; kernel_rfl) VK (by rw [aj, aj]) (bh _)) rfl ?_
 rintro _ _ ⟨rfl, VK, cg⟩
 replace X0 := X0.aE cg VZ
 refine ⟨X0, ?_⟩
 replace E := VP.ext X0
 replace B5 := VE.ext X0
 replace B6 := VF.ext X0
 replace B7 := VG.ext X0
 replace Vy := VC.ext X0
 replace Vz := VD.ext X0
 replace VJ := VJ.aE cg Om
 refine eK Kr ?_
 refine aU ?_
 refine dH Kr 10 rfl ?_; intro W6 ex Xd
 obtain ⟨E,B5,B6,B7,Vy,Vz,VJ,VK⟩ := Kw ex E B5 B6 B7 Vy Vz VJ VK
 have VP := E
 have VE := B5
 have VF := B6
 have VG := B7
 have VC := Vy
 have VD := Vz
 have V0 := VJ
 have V4 := VK
 have X0 := Ext.refl W6
 refine dL 0 rfl Kr (cX rfl V4) rfl ?_
 refine dL 1 rfl Kr (cX rfl VC) rfl ?_
 refine dL 3 rfl Kr (cX rfl V0) rfl ?_
 refine dL 4 rfl Kr (cX rfl VD) rfl ?_
 refine dJ (fl := [rz 6 12 134 (fe (fun _ => 0)), rz 7 13 134 (fe (fun _ => 0))]) rfl ?_
 refine ll 2 (some 39) func144 ?_
 intro _ ex exb
 obtain ⟨E,B5,B6,B7,Vy,Vz,X0⟩ := iQ ex E B5 B6 B7 Vy Vz X0
 refine ⟨_, (bB Wr F8 _), ?_⟩
 rintro e _ ⟨_, rfl, Wj, ex⟩
 refine ⟨_, rfl, ex, ?_⟩
 obtain ⟨E,B5,B6,B7,Vy,Vz,X0⟩ := iQ ex E B5 B6 B7 Vy Vz X0
 obtain ⟨f12, rfl, Wj⟩ := Wj.fe
 refine ll 5 (some 42) func144 ?_
 intro _ ex exb
 obtain ⟨E,B5,B6,B7,Vy,Vz,X0⟩ := iQ ex E B5 B6 B7 Vy Vz X0
 refine ⟨_, (bB Wq F9 _), ?_⟩
 rintro e _ ⟨_, rfl, Wk, ex⟩
 refine ⟨_, rfl, ex, ?_⟩
 obtain ⟨E,B5,B6,B7,Vy,Vz,X0⟩ := iQ ex E B5 B6 B7 Vy Vz X0
 obtain ⟨f13, rfl, Wk⟩ := Wk.fe
 refine ji ⟨(bQ (cv rfl Kr) (bQ (cv rfl Kr) aP)), by decide, by decide, (bQ (⟨rfl, by decide⟩) (bQ (⟨rfl, by decide⟩) aP)), (bQ (bm Kr) (bQ (bm Kr) aP))⟩ Kr ?_
 rintro _ _ _ ex ⟨⟨Wv, rfl, Vw⟩, V5⟩ ⟨⟨WU, rfl, Vx⟩, V6⟩ VM
 replace V5 := V5 Wv rfl
 replace V6 := V6 WU rfl
 have We : Wv ≠ WU := fun e => VM Wv rfl (by rw [e]; rfl)
 obtain ⟨E,B5,B6,B7,Vy,Vz,X0⟩ := iQ ex E B5 B6 B7 Vy Vz X0
 refine dp 8 Kr ?_
 refine eN rfl (ah rfl rfl (by rw [aj]; kernel_rfl) Vw (by rw [aj, aj]) (bh _)) rfl ?_
 rintro _ _ ⟨rfl, Vw, cg⟩
 replace X0 := X0.aE cg V5
 refine ⟨X0, ?_⟩
 replace E := VP.ext X0
 replace B5 := VE.ext X0
 replace B6 := VF.ext X0
 replace B7 := VG.ext X0
 replace Vy := VC.ext X0
 replace Vz := VD.ext X0
 replace Vx := Vx.aE cg Om
 refine dp 9 Kr ?_
 refine eN rfl (ah rfl rfl (by rw [aj]; kernel_rfl) Vx (by rw [aj, aj]) (bh _)) rfl ?_
 rintro _ _ ⟨rfl, Vx, cg⟩
 replace X0 := X0.aE cg V6
 refine ⟨X0, ?_⟩
 replace E := VP.ext X0
 replace B5 := VE.ext X0
 replace B6 := VF.ext X0
 replace B7 := VG.ext X0
 replace Vy := VC.ext X0
 replace Vz := VD.ext X0
 replace Vw := Vw.aE cg Om
 refine eK Kr ?_
 refine aU ?_
 refine dH Kr 8 rfl ?_; intro W7 ex Xe
 obtain ⟨E,B5,B6,B7,Vy,Vz,Vw,Vx⟩ := Kw ex E B5 B6 B7 Vy Vz Vw Vx
 have VP := E
 have VE := B5
 have VF := B6
 have VG := B7
 have VC := Vy
 have VD := Vz
 have VR := Vw
 have VS := Vx
 have X0 := Ext.refl W7
 refine dL 0 rfl Kr (cX rfl VC) rfl ?_
 refine dL 2 rfl Kr (cX rfl VD) rfl ?_
 refine dJ (fl := [rz 4 14 134 (fe (fun _ => 0)), rz 5 15 134 (fe (fun _ => 0))]) rfl ?_
 refine ll 1 (some 44) func205 ?_
 intro _ ex exb
 obtain ⟨E,B5,B6,B7,Vw,Vx,X0⟩ := iQ ex E B5 B6 B7 Vw Vx X0
 refine ⟨_, (bX F8 _), ?_⟩
 rintro e _ ⟨_, rfl, Wg, ex⟩
 refine ⟨_, rfl, ex, ?_⟩
 obtain ⟨E,B5,B6,B7,Vw,Vx,X0⟩ := iQ ex E B5 B6 B7 Vw Vx X0
 obtain ⟨f14, rfl, Wg⟩ := Wg.fe
 refine ll 3 (some 46) func205 ?_
 intro _ ex exb
 obtain ⟨E,B5,B6,B7,Vw,Vx,X0⟩ := iQ ex E B5 B6 B7 Vw Vx X0
 refine ⟨_, (bX F9 _), ?_⟩
 rintro e _ ⟨_, rfl, Wl, ex⟩
 refine ⟨_, rfl, ex, ?_⟩
 obtain ⟨E,B5,B6,B7,Vw,Vx,X0⟩ := iQ ex E B5 B6 B7 Vw Vx X0
 obtain ⟨f15, rfl, Wl⟩ := Wl.fe
 refine ji ⟨(bQ (cv rfl Kr) (bQ (cv rfl Kr) aP)), by decide, by decide, (bQ (⟨rfl, by decide⟩) (bQ (⟨rfl, by decide⟩) aP)), (bQ (bm Kr) (bQ (bm Kr) aP))⟩ Kr ?_
 rintro _ _ _ ex ⟨⟨Ww, rfl, VA⟩, V7⟩ ⟨⟨WV, rfl, VB⟩, V8⟩ VN
 replace V7 := V7 Ww rfl
 replace V8 := V8 WV rfl
 have Wf : Ww ≠ WV := fun e => VN Ww rfl (by rw [e]; rfl)
 obtain ⟨E,B5,B6,B7,Vw,Vx,X0⟩ := iQ ex E B5 B6 B7 Vw Vx X0
 refine dp 6 Kr ?_
 refine eN rfl (ah rfl rfl (by rw [aj]; kernel_rfl) VA (by rw [aj, aj]) (bh _)) rfl ?_
 rintro _ _ ⟨rfl, VA, cg⟩
 replace X0 := X0.aE cg V7
 refine ⟨X0, ?_⟩
 replace E := VP.ext X0
 replace B5 := VE.ext X0
 replace B6 := VF.ext X0
 replace B7 := VG.ext X0
 replace Vw := VR.ext X0
 replace Vx := VS.ext X0
 replace VB := VB.aE cg Om
 refine dp 7 Kr ?_
 refine eN rfl (ah rfl rfl (by rw [aj]; kernel_rfl) VB (by rw [aj, aj]) (bh _)) rfl ?_
 rintro _ _ ⟨rfl, VB, cg⟩
 replace X0 := X0.aE cg V8
 refine ⟨X0, ?_⟩
 replace E := VP.ext X0
 replace B5 := VE.ext X0
 replace B6 := VF.ext X0
 replace B7 := VG.ext X0
 replace Vw := VR.ext X0
 replace Vx := VS.ext X0
 replace VA := VA.aE cg Om
 refine eK Kr ?_
 refine au 4 ?_
 refine ak (cX rfl VA) ?_
 refine ak (cX rfl VB) ?_
 refine aB func206 rfl (fz Wg Wl _) ?_
 rintro e _ ⟨_, rfl, Wm, ex⟩
 obtain ⟨E,B5,B6,B7,Vw,Vx,VA,VB⟩ := Kw ex E B5 B6 B7 Vw Vx VA VB
 obtain ⟨f16, rfl, Wm⟩ := Wm.fe
 have Wh := E
 have V9 := B5
 have Wa := B6
 have Wb := B7
 have VT := Vw
 have VU := Vx
 have VV := VA
 have VW := VB
 refine aU ?_
 intro WW Xf (VO : ao _ _ _ (fe (fun _ => 0))) Wx ex
 have VH := ex
 obtain ⟨E,B5,B6,B7,Vw,Vx,VA,VB⟩ := Kw ex E B5 B6 B7 Vw Vx VA VB
 refine ag (ah rfl rfl (by rw [aj]; kernel_rfl) VO (by rw [aj, aj]) (bh _)) rfl ?_
 rintro _ _ ⟨rfl, VO, cg⟩
 replace VH := VH.aE cg Wx
 replace E := Wh.ext VH
 replace B5 := V9.ext VH
 replace B6 := Wa.ext VH
 replace B7 := Wb.ext VH
 replace Vw := VT.ext VH
 replace Vx := VU.ext VH
 replace VA := VV.ext VH
 replace VB := VW.ext VH
 refine aU ?_
 refine aC Kr 24 rfl ?_; intro Xg ex Xh
 obtain ⟨E,B5,B6,B7,Vw,Vx,VA,VB,VO⟩ := rA ex E B5 B6 B7 Vw Vx VA VB VO
 refine my 0 rfl (cX rfl VA) ?_
 refine my 1 rfl (cX rfl VB) ?_
 refine my 3 rfl (cX rfl VO) ?_
 refine my 4 rfl (cX rfl VA) ?_
 refine my 5 rfl (cX rfl VO) ?_
 refine my 11 rfl (cX rfl Vw) ?_
 refine my 12 rfl (cX rfl Vx) ?_
 refine my 15 rfl (cX rfl B5) ?_
 refine my 16 rfl (cX rfl Vw) ?_
 refine my 17 rfl (cX rfl Vx) ?_
 refine bD 2 rfl func144 rfl (bB Wg Wl _) ?_
 rintro e _ ⟨_, rfl, Wy, ex⟩
 refine aU ?_
 obtain ⟨E,B6,B7⟩ := bC ex E B6 B7
 obtain ⟨f21, rfl, Wy⟩ := Wy.fe
 refine bD 6 rfl func143 rfl (de 121665 _ Om) ?_
 rintro e _ ⟨_, rfl, Wz, ex⟩
 refine aU ?_
 obtain ⟨E,B6,B7⟩ := bC ex E B6 B7
 obtain ⟨f22, rfl, Wz⟩ := Wz.fe
 refine bD 7 rfl func144 rfl (bB Wm Wz _) ?_
 rintro e _ ⟨_, rfl, WA, ex⟩
 refine aU ?_
 obtain ⟨E,B6,B7⟩ := bC ex E B6 B7
 obtain ⟨f23, rfl, WA⟩ := WA.fe
 refine bD 8 rfl func151 rfl (ez Wg WA _) ?_
 rintro e _ ⟨_, rfl, WB, ex⟩
 refine aU ?_
 obtain ⟨E,B6,B7⟩ := bC ex E B6 B7
 obtain ⟨f24, rfl, WB⟩ := WB.fe
 refine bD 9 rfl func144 rfl (bB Wm WB _) ?_
 rintro e _ ⟨_, rfl, WD, ex⟩
 refine aU ?_
 obtain ⟨E,B6,B7⟩ := bC ex E B6 B7
 obtain ⟨f25, rfl, WD⟩ := WD.fe
 refine dk 10 rfl (fun _ => aq rfl (cells := pr f21 f25) Kr) ?_
 refine bD 13 rfl func151 rfl (ez Wj Wk _) ?_
 rintro e _ ⟨_, rfl, WE, ex⟩
 refine aU ?_
 obtain ⟨E,B6,B7⟩ := bC ex E B6 B7
 obtain ⟨f26, rfl, WE⟩ := WE.fe
 refine bD 14 rfl func205 rfl (bX WE _) ?_
 rintro e _ ⟨_, rfl, WG, ex⟩
 refine aU ?_
 obtain ⟨E,B6,B7⟩ := bC ex E B6 B7
 obtain ⟨f27, rfl, WG⟩ := WG.fe
 refine bD 18 rfl func206 rfl (fz Wj Wk _) ?_
 rintro e _ ⟨_, rfl, WH, ex⟩
 refine aU ?_
 obtain ⟨E,B6,B7⟩ := bC ex E B6 B7
 obtain ⟨f28, rfl, WH⟩ := WH.fe
 refine bD 19 rfl func205 rfl (bX WH _) ?_
 rintro e _ ⟨_, rfl, WI, ex⟩
 refine aU ?_
 obtain ⟨E,B6,B7⟩ := bC ex E B6 B7
 obtain ⟨f29, rfl, WI⟩ := WI.fe
 refine bD 20 rfl func144 rfl (bB U WI _) ?_
 rintro e _ ⟨_, rfl, WO, ex⟩
 refine aU ?_
 obtain ⟨E,B6,B7⟩ := bC ex E B6 B7
 obtain ⟨f30, rfl, WO⟩ := WO.fe
 refine dk 21 rfl (fun _ => aq rfl (cells := pr f27 f30) Kr) ?_
 refine bk 22 Kr ?_; refine bH rfl (ah rfl rfl (by rw [cn]; kernel_rfl) B6 (by rw [cn, cn]) (kx _ _)) rfl ?_
 rintro _ _ ⟨rfl, D6, cg⟩
 refine ⟨.inl rfl, ?_⟩
 replace B7 := B7.aE cg WS.symm; have E6 := E.aE cg WY
 refine bk 23 Kr ?_; refine bH rfl (ah rfl rfl (by rw [cn]; kernel_rfl) B7 (by rw [cn, cn]) (kx _ _)) rfl ?_
 rintro _ _ ⟨rfl, D7, cg⟩
 refine ⟨.inl rfl, ?_⟩
 replace D6 := D6.aE cg WS; have E7 := E6.aE cg W3
 refine aU ?_
 refine hret rfl rfl D6 (cn _ _) D7 (cn _ _) ?_
 exact ⟨f21, f25, f27, f30, rfl, Wy, WD, WG, WO, E7⟩
end
end Go.Proofs.YtgfafidlkldeaaaGreat
