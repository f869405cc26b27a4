/- The ladder's step and product on field elements: what dh's step and product hand back. -/
import Derived.Test.YtgfafidlkldeaaaGreatFieldA
import Derived.Test.YtgfafidlkldeaaaGreatFieldS
import Derived.Test.YtgfafidlkldeaaaGreatFieldQ
import Derived.Test.YtgfafidlkldeaaaGreatVc7
import Derived.Test.YtgfafidlkldeaaaGreatAu
set_option linter.unusedVariables false
set_option linter.unusedSimpArgs false
set_option maxHeartbeats 4000000
set_option maxRecDepth 4000
namespace Go.Proofs.YtgfafidlkldeaaaGreat
section
section
namespace Ed
open Fp
theorem MJ : (of 121666) ≠ 0 := by decide +kernel
theorem LH : d * of 121666 = - of 121665 := by decide +kernel
end Ed
end
section
namespace Ed
open Fp
def top : Nat := 57896044618658097711785492504343953926634992332820282019728792003956564819968
theorem CV : p < top := by decide +kernel
theorem JR : 2 * top = 256 ^ 32 := by decide +kernel
theorem xW : ∀ {a b : List UInt8}, a.length = b.length → num a = num b → a = b
  | [], [], _, _ => rfl
  | [], _ :: _, h, _ => by simp at h
  | _ :: _, [], h, _ => by simp at h
  | x :: a, y :: b, h, e => by
    simp only [num] at e
    have hx := x.toNat_lt; have hy := y.toNat_lt
    have h1 : x.toNat = y.toNat := by omega
    have h2 : num a = num b := by omega
    rw [UInt8.toNat_inj.1 h1, xW (by simpa using h) h2]
def sq (y : F) : F := (y * y - 1) * inv (d * (y * y) + 1)
theorem Jy (e : F) : e * (0 * 0) + 1 = 1 := by
 have h3 : e * (0 * 0) = 0 := by grind
 rw [h3]; decide +kernel
theorem Cx (y : F) : d * (y * y) + 1 ≠ 0 := fun h => by
 have h1 : im * im = d * (y * y) := by rw [Hz]; generalize d = D at *; grind
 have h2 := Bf h1
 subst h2
 rw [Jy] at h
 exact kN h
theorem JJ (y : F) : sq y * (d * (y * y) + 1) = y * y - 1 := div_mul (Cx y)
theorem Kk {x y : F} : On (x, y) ↔ x * x = sq y := by
 have h := JJ y
 have hp := Cx y
 unfold On
 simp only
 generalize d = D at *
 generalize sq y = s at *
 constructor
 ·intro h1
  refine cancel hp ?_
  clear hp
  grind
 ·intro h1
  subst h1
  clear hp
  grind
def enc (P : F × F) : List UInt8 := le 32 (P.2.val + top * (P.1.val % 2))
theorem gk (P : F × F) : (enc P).length = 32 := cH ..
theorem KJ (P : F × F) : P.2.val + top * (P.1.val % 2) < 2 * top := by
 have h1 := P.2.isLt; have h2 := CV
 have := Nat.mod_lt P.1.val (show 0 < 2 by omega)
 rcases (show P.1.val % 2 = 0 ∨ P.1.val % 2 = 1 by omega) with h | h <;> rw [h] <;> omega
theorem EN (P : F × F) : num (enc P) = P.2.val + top * (P.1.val % 2) := wP 32 _ (by rw [← JR]; exact KJ P)
end Ed
end
end
section
open Go.RowKit Tryz
attribute [local irreducible] Y Ef WL WC WK WQ WM cx WN WF cT
theorem FE.fe {cs : Array Value} {a : Fp.F} (h : FE cs a) : ∃ f, cs = fe f ∧ FE (fe f) a := by
 obtain ⟨f, rfl, h1, h2⟩ := h; exact ⟨f, rfl, f, rfl, h1, h2⟩
def pr (f g : Nat → Nat) : Array Value := fe f ++ fe g
theorem bX (f g : Nat → Nat) : (pr f g).size = 10 := by rw [pr, Array.size_append, ai, ai]
theorem ju (f g : Nat → Nat) : (pr f g).all (·.oneCell') = true := by rw [pr, Array.all_append, bh, bh]; rfl
theorem KS (f g : Nat → Nat) (j : Nat) (v : Value) (h : (fe f)[j]? = some v) : (pr f g)[j]? = some v := by
 rw [pr, Array.getElem?_append_left (Array.getElem?_eq_some_iff.1 h).1]; exact h
theorem Js (f g : Nat → Nat) (j : Nat) (v : Value) (h : (fe g)[j]? = some v) : (pr f g)[5 + j]? = some v := by
 rw [pr, Array.getElem?_append_right (by rw [ai]; omega), ai, Nat.add_sub_cancel_left]; exact h
section
variable {L : List (Nat × Value)} {w : World} {ty e : TypeId} {x : Operand} {g : Nat} {f h : Nat → Nat}
theorem cN (hx : ev L x = some (.pointer (some ⟨g, 0, none⟩))) (B : ao w g e (fe f)) : Y Tryz.prog L w (.load 134 x) ty (.agg (fe f)) := aV hx underlying134 rfl (by rw [ai]; kernel_rfl) B
theorem GZ (hx : ev L x = some (.pointer (some ⟨g, 0, none⟩))) (B : ao w g e (pr f h)) : Y Tryz.prog L w (.load 300 x) ty (.agg (pr f h)) := aV hx underlying300 rfl (by rw [bX]; kernel_rfl) B
theorem qY (hx : ev L x = some (.pointer (some ⟨g, 0, none⟩))) (B : ao w g e (pr f h)) : Y Tryz.prog L w (.load 134 x) ty (.agg (fe f)) :=
 dH hx underlying134 rfl (by rw [ai]; kernel_rfl) fun j v hv => by rw [Addr.add_plain, Nat.zero_add, B.cell]; exact KS f h j v hv
theorem qV (hx : ev L x = some (.pointer (some ⟨g, 5, none⟩))) (B : ao w g e (pr f h)) : Y Tryz.prog L w (.load 134 x) ty (.agg (fe h)) :=
 dH hx underlying134 rfl (by rw [ai]; kernel_rfl) fun j v hv => by rw [Addr.add_plain, B.cell]; exact Js f h j v hv
end
def Eh (px pz qx qz u : Fp.F) : (Fp.F × Fp.F) × (Fp.F × Fp.F) :=
 let a := px + pz; let b := px - pz; let c := qx + qz; let d := qx - qz
 let da := d * a; let cb := c * b; let aa := a * a; let bb := b * b; let e := aa - bb
 ((aa * bb, e * (aa + e * Fp.of 121665)), ((da + cb) * (da + cb), u * ((da - cb) * (da - cb))))
theorem pE (p1 p2 q1 q2 f5 : Nat → Nat) (px pz qx qz u : Fp.F) (w : World) (P1 : FE (fe p1) px) (P2 : FE (fe p2) pz) (Q1 : FE (fe q1) qx) (Q2 : FE (fe q2) qz) (U : FE (fe f5) u) :
  Ct 259 #[.agg (pr p1 p2), .agg (pr q1 q2), .agg (fe f5)] w fun e w' => ∃ f1 f2 f3 f4, e = .returned (.tuple #[.agg (pr f1 f2), .agg (pr f3 f4)]) ∧ FE (fe f1) (Eh px pz qx qz u).1.1 ∧ FE (fe f2) (Eh px pz qx qz u).1.2 ∧ FE (fe f3) (Eh px pz qx qz u).2.1 ∧ FE (fe f4) (Eh px pz qx qz u).2.2 ∧ Ext w w' := by
 have E := Ext.refl w
 refine wN (s := 10) (s' := 10) 72 func259 rfl rfl rfl underlying300 rfl Kr underlying300 rfl Kr rfl ?_
 intro _ hret
 refine aU ?_
 intro w1 g3 (B3 : ao _ _ _ (pr p1 p2)) WX ex
 replace E := E.ext ex
 refine aU ?_
 intro w2 g4 (B4 : ao _ _ _ (pr q1 q2)) WY ex
 obtain ⟨E,B3⟩ := aY ex E B3
 refine aU ?_
 intro w3 g5 (B5 : ao _ _ _ (fe f5)) WZ ex
 obtain ⟨E,B3,B4⟩ := bC ex E B3 B4
 have E0 := E
 refine aU ?_
 intro w4 g6 (B6 : ao _ _ _ (pr (fun _ => 0) (fun _ => 0))) WE ex
 obtain ⟨E,B3,B4,B5⟩ := bU ex E B3 B4 B5
 have WH : w.heap.size ≤ g6 := Nat.le_trans E0.size WE
 have E1 := E; have WI := B6
 refine aU ?_
 intro w5 g7 (B7 : ao _ _ _ (pr (fun _ => 0) (fun _ => 0))) WO ex
 obtain ⟨E,B3,B4,B5,B6⟩ := gQ ex E B3 B4 B5 B6
 have WS : w.heap.size ≤ g7 := Nat.le_trans E1.size WO; have Wy : g6 ≠ g7 := by have := WI.lt; omega
 refine aU ?_
 refine dc Kr 14 rfl ?_; intro WT ex W3
 obtain ⟨E,B3,B4,B5,B6,B7⟩ := gL ex E B3 B4 B5 B6 B7
 have VE := E
 have VM := B3
 have Vx := B4
 have Vt := B5
 have Vu := B6
 have Vv := B7
 have X0 := Ext.refl WT
 refine zm [0] ?_
 refine cR 1 rfl Kr (qY rfl VM) rfl ?_
 refine zm [2] ?_
 refine cR 3 rfl Kr (qV rfl VM) rfl ?_
 refine zm [5] ?_
 refine cR 6 rfl Kr (qY rfl VM) rfl ?_
 refine zm [7] ?_
 refine cR 8 rfl Kr (qV rfl VM) rfl ?_
 refine dd (fl := [nT 10 8 134 (fe (fun _ => 0)), nT 11 9 134 (fe (fun _ => 0))]) rfl ?_
 refine jj 4 (some 21) func151 ?_
 intro _ ex exb
 obtain ⟨E,B4,B5,B6,B7,X0⟩ := gL ex E B4 B5 B6 B7 X0
 refine ⟨_, (dK P1 P2 _), ?_⟩
 rintro e _ ⟨_, rfl, F8, ex⟩
 refine ⟨_, rfl, ex, ?_⟩
 obtain ⟨E,B4,B5,B6,B7,X0⟩ := gL ex E B4 B5 B6 B7 X0
 obtain ⟨f8, rfl, F8⟩ := F8.fe
 refine jj 9 (some 26) func206 ?_
 intro _ ex exb
 obtain ⟨E,B4,B5,B6,B7,X0⟩ := gL ex E B4 B5 B6 B7 X0
 refine ⟨_, (eQ P1 P2 _), ?_⟩
 rintro e _ ⟨_, rfl, F9, ex⟩
 refine ⟨_, rfl, ex, ?_⟩
 obtain ⟨E,B4,B5,B6,B7,X0⟩ := gL ex E B4 B5 B6 B7 X0
 obtain ⟨f9, rfl, F9⟩ := F9.fe
 refine fH ⟨(aS (bw rfl Kr) (aS (bw rfl Kr) av)), of_decide_eq_true rfl, of_decide_eq_true rfl, (aS (⟨rfl, of_decide_eq_true rfl⟩) (aS (⟨rfl, of_decide_eq_true rfl⟩) av)), (aS (aR Kr) (aS (aR Kr) av))⟩ Kr ?_
 rintro _ _ _ ex ⟨⟨g8, rfl, Vn⟩, Wc⟩ ⟨⟨g9, rfl, Vo⟩, We⟩ VF
 replace Wc := Wc g8 rfl
 replace We := We g9 rfl
 have V4 : g8 ≠ g9 := fun e => VF g8 rfl (by rw [e]; rfl)
 obtain ⟨E,B4,B5,B6,B7,X0⟩ := gL ex E B4 B5 B6 B7 X0
 refine cL 12 Kr ?_
 refine dx rfl (ag rfl rfl (by rw [ai]; kernel_rfl) Vn (by rw [ai, ai]) (bh _)) rfl ?_
 rintro _ _ ⟨rfl, Vn, cg⟩
 replace X0 := X0.aw cg Wc
 refine ⟨X0, ?_⟩
 replace E := VE.ext X0
 replace B4 := Vx.ext X0
 replace B5 := Vt.ext X0
 replace B6 := Vu.ext X0
 replace B7 := Vv.ext X0
 replace Vo := Vo.aw cg Om
 refine cL 13 Kr ?_
 refine dx rfl (ag rfl rfl (by rw [ai]; kernel_rfl) Vo (by rw [ai, ai]) (bh _)) rfl ?_
 rintro _ _ ⟨rfl, Vo, cg⟩
 replace X0 := X0.aw cg We
 refine ⟨X0, ?_⟩
 replace E := VE.ext X0
 replace B4 := Vx.ext X0
 replace B5 := Vt.ext X0
 replace B6 := Vu.ext X0
 replace B7 := Vv.ext X0
 replace Vn := Vn.aw cg Om
 refine dA Kr ?_
 refine aU ?_
 refine dc Kr 14 rfl ?_; intro WU ex W4
 obtain ⟨E,B4,B5,B6,B7,Vn,Vo⟩ := gY ex E B4 B5 B6 B7 Vn Vo
 have VE := E
 have Vx := B4
 have Vt := B5
 have Vu := B6
 have Vv := B7
 have Vr := Vn
 have Vs := Vo
 have X0 := Ext.refl WU
 refine zm [0] ?_
 refine cR 1 rfl Kr (qY rfl Vx) rfl ?_
 refine zm [2] ?_
 refine cR 3 rfl Kr (qV rfl Vx) rfl ?_
 refine zm [5] ?_
 refine cR 6 rfl Kr (qY rfl Vx) rfl ?_
 refine zm [7] ?_
 refine cR 8 rfl Kr (qV rfl Vx) rfl ?_
 refine dd (fl := [nT 10 10 134 (fe (fun _ => 0)), nT 11 11 134 (fe (fun _ => 0))]) rfl ?_
 refine jj 4 (some 31) func151 ?_
 intro _ ex exb
 obtain ⟨E,B5,B6,B7,Vn,Vo,X0⟩ := gY ex E B5 B6 B7 Vn Vo X0
 refine ⟨_, (dK Q1 Q2 _), ?_⟩
 rintro e _ ⟨_, rfl, Wf, ex⟩
 refine ⟨_, rfl, ex, ?_⟩
 obtain ⟨E,B5,B6,B7,Vn,Vo,X0⟩ := gY ex E B5 B6 B7 Vn Vo X0
 obtain ⟨f10, rfl, Wf⟩ := Wf.fe
 refine jj 9 (some 36) func206 ?_
 intro _ ex exb
 obtain ⟨E,B5,B6,B7,Vn,Vo,X0⟩ := gY ex E B5 B6 B7 Vn Vo X0
 refine ⟨_, (eQ Q1 Q2 _), ?_⟩
 rintro e _ ⟨_, rfl, Wg, ex⟩
 refine ⟨_, rfl, ex, ?_⟩
 obtain ⟨E,B5,B6,B7,Vn,Vo,X0⟩ := gY ex E B5 B6 B7 Vn Vo X0
 obtain ⟨f11, rfl, Wg⟩ := Wg.fe
 refine fH ⟨(aS (bw rfl Kr) (aS (bw rfl Kr) av)), of_decide_eq_true rfl, of_decide_eq_true rfl, (aS (⟨rfl, of_decide_eq_true rfl⟩) (aS (⟨rfl, of_decide_eq_true rfl⟩) av)), (aS (aR Kr) (aS (aR Kr) av))⟩ Kr ?_
 rintro _ _ _ ex ⟨⟨Wh, rfl, Vy⟩, VN⟩ ⟨⟨Wz, rfl, Vz⟩, VO⟩ VA
 replace VN := VN Wh rfl
 replace VO := VO Wz rfl
 have VY : Wh ≠ Wz := fun e => VA Wh rfl (by rw [e]; rfl)
 obtain ⟨E,B5,B6,B7,Vn,Vo,X0⟩ := gY ex E B5 B6 B7 Vn Vo X0
 refine cL 12 Kr ?_
 refine dx rfl (ag rfl rfl (by rw [ai]; kernel_rfl) Vy (by rw [ai, ai]) (bh _)) rfl ?_
 rintro _ _ ⟨rfl, Vy, cg⟩
 replace X0 := X0.aw cg VN
 refine ⟨X0, ?_⟩
 replace E := VE.ext X0
 replace B5 := Vt.ext X0
 replace B6 := Vu.ext X0
 replace B7 := Vv.ext X0
 replace Vn := Vr.ext X0
 replace Vo := Vs.ext X0
 replace Vz := Vz.aw cg Om
 refine cL 13 Kr ?_
 refine dx rfl (ag rfl rfl (by rw [ai]; kernel_rfl) Vz (by rw [ai, ai]) (bh _)) rfl ?_
 rintro _ _ ⟨rfl, Vz, cg⟩
 replace X0 := X0.aw cg VO
 refine ⟨X0, ?_⟩
 replace E := VE.ext X0
 replace B5 := Vt.ext X0
 replace B6 := Vu.ext X0
 replace B7 := Vv.ext X0
 replace Vn := Vr.ext X0
 replace Vo := Vs.ext X0
 replace Vy := Vy.aw cg Om
 refine dA Kr ?_
 refine aU ?_
 refine dc Kr 10 rfl ?_; intro WV ex W5
 obtain ⟨E,B5,B6,B7,Vn,Vo,Vy,Vz⟩ := Mr ex E B5 B6 B7 Vn Vo Vy Vz
 have VE := E
 have Vt := B5
 have Vu := B6
 have Vv := B7
 have Vr := Vn
 have Vs := Vo
 have VP := Vy
 have VQ := Vz
 have X0 := Ext.refl WV
 refine cR 0 rfl Kr (cN rfl VQ) rfl ?_
 refine cR 1 rfl Kr (cN rfl Vr) rfl ?_
 refine cR 3 rfl Kr (cN rfl VP) rfl ?_
 refine cR 4 rfl Kr (cN rfl Vs) rfl ?_
 refine dd (fl := [nT 6 12 134 (fe (fun _ => 0)), nT 7 13 134 (fe (fun _ => 0))]) rfl ?_
 refine jj 2 (some 39) func144 ?_
 intro _ ex exb
 obtain ⟨E,B5,B6,B7,Vn,Vo,X0⟩ := gY ex E B5 B6 B7 Vn Vo X0
 refine ⟨_, (bE Wg F8 _), ?_⟩
 rintro e _ ⟨_, rfl, V5, ex⟩
 refine ⟨_, rfl, ex, ?_⟩
 obtain ⟨E,B5,B6,B7,Vn,Vo,X0⟩ := gY ex E B5 B6 B7 Vn Vo X0
 obtain ⟨f12, rfl, V5⟩ := V5.fe
 refine jj 5 (some 42) func144 ?_
 intro _ ex exb
 obtain ⟨E,B5,B6,B7,Vn,Vo,X0⟩ := gY ex E B5 B6 B7 Vn Vo X0
 refine ⟨_, (bE Wf F9 _), ?_⟩
 rintro e _ ⟨_, rfl, V6, ex⟩
 refine ⟨_, rfl, ex, ?_⟩
 obtain ⟨E,B5,B6,B7,Vn,Vo,X0⟩ := gY ex E B5 B6 B7 Vn Vo X0
 obtain ⟨f13, rfl, V6⟩ := V6.fe
 refine fH ⟨(aS (bw rfl Kr) (aS (bw rfl Kr) av)), of_decide_eq_true rfl, of_decide_eq_true rfl, (aS (⟨rfl, of_decide_eq_true rfl⟩) (aS (⟨rfl, of_decide_eq_true rfl⟩) av)), (aS (aR Kr) (aS (aR Kr) av))⟩ Kr ?_
 rintro _ _ _ ex ⟨⟨Wi, rfl, Vl⟩, VR⟩ ⟨⟨WA, rfl, Vm⟩, VS⟩ VB
 replace VR := VR Wi rfl
 replace VS := VS WA rfl
 have VZ : Wi ≠ WA := fun e => VB Wi rfl (by rw [e]; rfl)
 obtain ⟨E,B5,B6,B7,Vn,Vo,X0⟩ := gY ex E B5 B6 B7 Vn Vo X0
 refine cL 8 Kr ?_
 refine dx rfl (ag rfl rfl (by rw [ai]; kernel_rfl) Vl (by rw [ai, ai]) (bh _)) rfl ?_
 rintro _ _ ⟨rfl, Vl, cg⟩
 replace X0 := X0.aw cg VR
 refine ⟨X0, ?_⟩
 replace E := VE.ext X0
 replace B5 := Vt.ext X0
 replace B6 := Vu.ext X0
 replace B7 := Vv.ext X0
 replace Vn := Vr.ext X0
 replace Vo := Vs.ext X0
 replace Vm := Vm.aw cg Om
 refine cL 9 Kr ?_
 refine dx rfl (ag rfl rfl (by rw [ai]; kernel_rfl) Vm (by rw [ai, ai]) (bh _)) rfl ?_
 rintro _ _ ⟨rfl, Vm, cg⟩
 replace X0 := X0.aw cg VS
 refine ⟨X0, ?_⟩
 replace E := VE.ext X0
 replace B5 := Vt.ext X0
 replace B6 := Vu.ext X0
 replace B7 := Vv.ext X0
 replace Vn := Vr.ext X0
 replace Vo := Vs.ext X0
 replace Vl := Vl.aw cg Om
 refine dA Kr ?_
 refine aU ?_
 refine dc Kr 8 rfl ?_; intro WW ex W6
 obtain ⟨E,B5,B6,B7,Vn,Vo,Vl,Vm⟩ := Mr ex E B5 B6 B7 Vn Vo Vl Vm
 have VE := E
 have Vt := B5
 have Vu := B6
 have Vv := B7
 have Vr := Vn
 have Vs := Vo
 have VG := Vl
 have VH := Vm
 have X0 := Ext.refl WW
 refine cR 0 rfl Kr (cN rfl Vr) rfl ?_
 refine cR 2 rfl Kr (cN rfl Vs) rfl ?_
 refine dd (fl := [nT 4 14 134 (fe (fun _ => 0)), nT 5 15 134 (fe (fun _ => 0))]) rfl ?_
 refine jj 1 (some 44) func205 ?_
 intro _ ex exb
 obtain ⟨E,B5,B6,B7,Vl,Vm,X0⟩ := gY ex E B5 B6 B7 Vl Vm X0
 refine ⟨_, (bQ F8 _), ?_⟩
 rintro e _ ⟨_, rfl, V1, ex⟩
 refine ⟨_, rfl, ex, ?_⟩
 obtain ⟨E,B5,B6,B7,Vl,Vm,X0⟩ := gY ex E B5 B6 B7 Vl Vm X0
 obtain ⟨f14, rfl, V1⟩ := V1.fe
 refine jj 3 (some 46) func205 ?_
 intro _ ex exb
 obtain ⟨E,B5,B6,B7,Vl,Vm,X0⟩ := gY ex E B5 B6 B7 Vl Vm X0
 refine ⟨_, (bQ F9 _), ?_⟩
 rintro e _ ⟨_, rfl, Wa, ex⟩
 refine ⟨_, rfl, ex, ?_⟩
 obtain ⟨E,B5,B6,B7,Vl,Vm,X0⟩ := gY ex E B5 B6 B7 Vl Vm X0
 obtain ⟨f15, rfl, Wa⟩ := Wa.fe
 refine fH ⟨(aS (bw rfl Kr) (aS (bw rfl Kr) av)), of_decide_eq_true rfl, of_decide_eq_true rfl, (aS (⟨rfl, of_decide_eq_true rfl⟩) (aS (⟨rfl, of_decide_eq_true rfl⟩) av)), (aS (aR Kr) (aS (aR Kr) av))⟩ Kr ?_
 rintro _ _ _ ex ⟨⟨Wj, rfl, Vp⟩, VT⟩ ⟨⟨WB, rfl, Vq⟩, VU⟩ VC
 replace VT := VT Wj rfl
 replace VU := VU WB rfl
 have V0 : Wj ≠ WB := fun e => VC Wj rfl (by rw [e]; rfl)
 obtain ⟨E,B5,B6,B7,Vl,Vm,X0⟩ := gY ex E B5 B6 B7 Vl Vm X0
 refine cL 6 Kr ?_
 refine dx rfl (ag rfl rfl (by rw [ai]; kernel_rfl) Vp (by rw [ai, ai]) (bh _)) rfl ?_
 rintro _ _ ⟨rfl, Vp, cg⟩
 replace X0 := X0.aw cg VT
 refine ⟨X0, ?_⟩
 replace E := VE.ext X0
 replace B5 := Vt.ext X0
 replace B6 := Vu.ext X0
 replace B7 := Vv.ext X0
 replace Vl := VG.ext X0
 replace Vm := VH.ext X0
 replace Vq := Vq.aw cg Om
 refine cL 7 Kr ?_
 refine dx rfl (ag rfl rfl (by rw [ai]; kernel_rfl) Vq (by rw [ai, ai]) (bh _)) rfl ?_
 rintro _ _ ⟨rfl, Vq, cg⟩
 replace X0 := X0.aw cg VU
 refine ⟨X0, ?_⟩
 replace E := VE.ext X0
 replace B5 := Vt.ext X0
 replace B6 := Vu.ext X0
 replace B7 := Vv.ext X0
 replace Vl := VG.ext X0
 replace Vm := VH.ext X0
 replace Vp := Vp.aw cg Om
 refine dA Kr ?_
 refine au 4 ?_
 refine ak (cN rfl Vp) ?_
 refine ak (cN rfl Vq) ?_
 refine aL func206 rfl (eQ V1 Wa _) ?_
 rintro e _ ⟨_, rfl, Wb, ex⟩
 obtain ⟨E,B5,B6,B7,Vl,Vm,Vp,Vq⟩ := Mr ex E B5 B6 B7 Vl Vm Vp Vq
 obtain ⟨f16, rfl, Wb⟩ := Wb.fe
 have V2 := E
 have VV := B5
 have VW := B6
 have VX := B7
 have VI := Vl
 have VJ := Vm
 have VK := Vp
 have VL := Vq
 refine aU ?_
 intro WD W9 (VD : ao _ _ _ (fe (fun _ => 0))) Wk ex
 have Vw := ex
 obtain ⟨E,B5,B6,B7,Vl,Vm,Vp,Vq⟩ := Mr ex E B5 B6 B7 Vl Vm Vp Vq
 refine af (ag rfl rfl (by rw [ai]; kernel_rfl) VD (by rw [ai, ai]) (bh _)) rfl ?_
 rintro _ _ ⟨rfl, VD, cg⟩
 replace Vw := Vw.aw cg Wk
 replace E := V2.ext Vw
 replace B5 := VV.ext Vw
 replace B6 := VW.ext Vw
 replace B7 := VX.ext Vw
 replace Vl := VI.ext Vw
 replace Vm := VJ.ext Vw
 replace Vp := VK.ext Vw
 replace Vq := VL.ext Vw
 refine aU ?_
 refine aA Kr 24 rfl ?_; intro Xa ex Xb
 obtain ⟨E,B5,B6,B7,Vl,Vm,Vp,Vq,VD⟩ := vC ex E B5 B6 B7 Vl Vm Vp Vq VD
 refine my 0 rfl (cN rfl Vp) ?_
 refine my 1 rfl (cN rfl Vq) ?_
 refine my 3 rfl (cN rfl VD) ?_
 refine my 4 rfl (cN rfl Vp) ?_
 refine my 5 rfl (cN rfl VD) ?_
 refine my 11 rfl (cN rfl Vl) ?_
 refine my 12 rfl (cN rfl Vm) ?_
 refine my 15 rfl (cN rfl B5) ?_
 refine my 16 rfl (cN rfl Vl) ?_
 refine my 17 rfl (cN rfl Vm) ?_
 refine bm 2 rfl func144 rfl (bE V1 Wa _) ?_
 rintro e _ ⟨_, rfl, Wl, ex⟩
 refine aU ?_
 obtain ⟨E,B6,B7⟩ := bC ex E B6 B7
 obtain ⟨f21, rfl, Wl⟩ := Wl.fe
 refine bm 6 rfl func143 rfl (cP 121665 _ Om) ?_
 rintro e _ ⟨_, rfl, Wm, ex⟩
 refine aU ?_
 obtain ⟨E,B6,B7⟩ := bC ex E B6 B7
 obtain ⟨f22, rfl, Wm⟩ := Wm.fe
 refine bm 7 rfl func144 rfl (bE Wb Wm _) ?_
 rintro e _ ⟨_, rfl, Wn, ex⟩
 refine aU ?_
 obtain ⟨E,B6,B7⟩ := bC ex E B6 B7
 obtain ⟨f23, rfl, Wn⟩ := Wn.fe
 refine bm 8 rfl func151 rfl (dK V1 Wn _) ?_
 rintro e _ ⟨_, rfl, Wo, ex⟩
 refine aU ?_
 obtain ⟨E,B6,B7⟩ := bC ex E B6 B7
 obtain ⟨f24, rfl, Wo⟩ := Wo.fe
 refine bm 9 rfl func144 rfl (bE Wb Wo _) ?_
 rintro e _ ⟨_, rfl, Wq, ex⟩
 refine aU ?_
 obtain ⟨E,B6,B7⟩ := bC ex E B6 B7
 obtain ⟨f25, rfl, Wq⟩ := Wq.fe
 refine cU 10 rfl (fun _ => aJ rfl (cells := pr f21 f25) Kr) ?_
 refine bm 13 rfl func151 rfl (dK V5 V6 _) ?_
 rintro e _ ⟨_, rfl, Wr, ex⟩
 refine aU ?_
 obtain ⟨E,B6,B7⟩ := bC ex E B6 B7
 obtain ⟨f26, rfl, Wr⟩ := Wr.fe
 refine bm 14 rfl func205 rfl (bQ Wr _) ?_
 rintro e _ ⟨_, rfl, Ws, ex⟩
 refine aU ?_
 obtain ⟨E,B6,B7⟩ := bC ex E B6 B7
 obtain ⟨f27, rfl, Ws⟩ := Ws.fe
 refine bm 18 rfl func206 rfl (eQ V5 V6 _) ?_
 rintro e _ ⟨_, rfl, Wv, ex⟩
 refine aU ?_
 obtain ⟨E,B6,B7⟩ := bC ex E B6 B7
 obtain ⟨f28, rfl, Wv⟩ := Wv.fe
 refine bm 19 rfl func205 rfl (bQ Wv _) ?_
 rintro e _ ⟨_, rfl, Ww, ex⟩
 refine aU ?_
 obtain ⟨E,B6,B7⟩ := bC ex E B6 B7
 obtain ⟨f29, rfl, Ww⟩ := Ww.fe
 refine bm 20 rfl func144 rfl (bE U Ww _) ?_
 rintro e _ ⟨_, rfl, Wx, ex⟩
 refine aU ?_
 obtain ⟨E,B6,B7⟩ := bC ex E B6 B7
 obtain ⟨f30, rfl, Wx⟩ := Wx.fe
 refine cU 21 rfl (fun _ => aJ rfl (cells := pr f27 f30) Kr) ?_
 refine aM 22 Kr ?_; refine aO rfl (ag rfl rfl (by rw [bX]; kernel_rfl) B6 (by rw [bX, bX]) (ju _ _)) rfl ?_
 rintro _ _ ⟨rfl, D6, cg⟩
 refine ⟨.inl rfl, ?_⟩
 replace B7 := B7.aw cg Wy.symm; have E6 := E.aw cg WH
 refine aM 23 Kr ?_; refine aO rfl (ag rfl rfl (by rw [bX]; kernel_rfl) B7 (by rw [bX, bX]) (ju _ _)) rfl ?_
 rintro _ _ ⟨rfl, D7, cg⟩
 refine ⟨.inl rfl, ?_⟩
 replace D6 := D6.aw cg Wy; have E7 := E6.aw cg WS
 refine aU ?_
 refine hret rfl rfl D6 (bX _ _) D7 (bX _ _) ?_
 exact ⟨f21, f25, f27, f30, rfl, Wl, Wq, Ws, Wx, E7⟩
end
end Go.Proofs.YtgfafidlkldeaaaGreat
