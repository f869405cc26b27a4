/- The law WelcomeMakes: what is made of any secrets, details, party and seed. No conditions: contracts of functions. -/
import Derived.Test.YtgfafidlkldeaaaGreatRowW
import Derived.Test.YtgfafidlkldeaaaGreatWlO
import Derived.Test.YtgfafidlkldeaaaGreatWlK
import Derived.Test.YtgfafidlkldeaaaGreatAu
set_option linter.unusedVariables false
set_option linter.unusedSimpArgs false
set_option maxHeartbeats 4000000
set_option maxRecDepth 4000
namespace Go.Proofs.YtgfafidlkldeaaaGreat
section
open Go.ChangeShapes Go.WideShapes Go.ChangeAt Go.RowKit
section
variable {H : Type} {enc : TypeId × Value → H} {W : World} {base : Nat} {spare : Nat → Bool} {held : Bool}
theorem wC {fuel : Nat} {cs : List Value} {x : DataW H × List MemPlace} (h : DataW.trod enc Tryz.prog W base spare held fuel 77 cs = some x) : ∃ p, uY W cs.toArray p := by
 obtain ⟨Vl, hl, hfs⟩ := trod_struct Tryz.underlying77 h
 have hc : Tryz.prog.cellsOf 77 = 2 := by kernel_rfl
 rw [hc] at hl
 have c0 : Tryz.prog.cellsOf 5 = 1 := by kernel_rfl
 obtain ⟨_, t0⟩ := hfs 0 _ rfl
 obtain ⟨_, t1⟩ := hfs 1 _ rfl
 obtain ⟨k0, e0, m0⟩ := yD t0
 obtain ⟨k1, e1, m1⟩ := yD t1
 have e : cs.drop 0 = _ := pI (o := 0) c0 e0
 rw [pI (o := 1) c0 e1, Dd hl] at e
 exact ⟨(k0, k1), congrArg List.toArray e, m0, m1⟩
theorem Dk {A : Oa} {n c : Nat} {d : DataW H} {p : List MemPlace} (h : DataW.Trod enc Tryz.prog W base spare held 56 (.slice A n c) d p) : ∃ ps, mI uY 2 W A n ps := by
 obtain ⟨fuel, hf⟩ := h
 obtain ⟨a, n', c', xs, e, b, _⟩ := Dy (R := uY) (sz := 2) Tryz.underlying56 Kr (fun _ _ _ h => wC h) hf
 have e' : [Value.slice A n c] = [.slice a n' c'] := e
 injection e' with e' _
 injection e' with e1 e2 _
 subst e1; subst e2
 exact ⟨xs, b⟩
end
end
section
open Go.RowKit Tryz
attribute [local irreducible] Y Ef WL WC WK WQ WM cx WN WF cT WJ gZ WG mR WR qo
open Wire Nd Hk
theorem Aj {cs ds es : Array Value} {p : Pack} (w : World) (h3 : cs.size = 2) (HP : cS w ds p) (hp : p.Small) (hno : ¬ df p) (h5 : es.size = 3) :
  Ct 12 #[.agg cs, .agg ds, .agg es] w fun e w' => e = .returned (.tuple #[.agg rG, .int .u8 3]) ∧ Ext w w' := by
 have Vm := HP
 obtain ⟨i, p0, p1, p2, p4, p5, pg, rfl, hsrc, _⟩ := Vm
 have F := aX.refl [] w
 refine cV (s := 20) 108 func12 rfl rfl rfl underlying46 rfl Kr rfl ?_
 intro _ hret
 refine aU ?_
 intro _ _ B3 _ ex
 have Vo := B3.lt
 replace F := F.ext ex
 refine aU ?_
 intro _ _ B4 _ ex
 have Vp := B4.lt
 replace F := F.ext ex
 refine aU ?_
 intro _ _ B5 _ ex
 have Vq := B5.lt
 obtain ⟨F,B4⟩ := aY ex F B4
 refine aU ?_
 intro _ _ B6 Vl ex
 replace F := F.grow ex Vl
 replace B4 := B4.grow ex Vl
 refine aU ?_
 have X1 := F.cM So
 refine aL func36 rfl (fQ _ (HP.ext X1) hp) ?_
 rintro e _ ⟨_, _, _, _, rfl, T8, _, ex⟩
 obtain ⟨F,B6⟩ := aY ex F B6
 obtain ⟨Vn, _⟩ := T8.2 hno; subst Vn
 refine au 18 ?_
 refine ak (aJ rfl (cells := rG) Kr) ?_
 refine aU ?_
 intro _ D cg
 have ex := aX.one cg
 clear cg
 replace F := F.bT ex
 replace B6 := D; clear D
 replace B6 := B6.congr (cs' := rG) rfl
 refine aU ?_
 refine hret rfl rfl B6 rfl ?_
 exact ⟨rfl, F.cM So⟩
theorem za (w : World) (A : Oa) (n c : Nat) : Ct 37 #[.agg (cZ aq aq), .slice A n c] w fun e w' => e = .returned (.tuple #[.agg (cZ aq aq), .bool false]) ∧ Ext w w' := by
 have F := aX.refl [] w
 refine cV (s := 2) 23 func37 rfl rfl rfl underlying35 rfl Kr rfl ?_
 intro _ hret
 refine au 2 ?_
 refine af (nc rfl rfl) rfl ?_
 rintro _ _ ⟨_, rfl, B2, _, ex⟩
 have Vo := B2.lt
 replace F := F.ext ex
 refine af (dL (Z := #[.slice none 0 0, .slice none 0 0]) Kr) rfl ?_
 rintro _ _ ⟨_, rfl, B4, Vl, ex⟩
 replace F := F.grow ex Vl
 replace B2 := B2.grow ex Vl
 refine au 6 ?_
 refine ak (eJ 0 1 0 0 Tn.u) ?_
 refine ak (ah rfl Tn.u rfl (B2.get (i := 0) rfl)) ?_
 refine au 5 ?_
 refine rz 1 ?_; refine lW ?_; intro Vn Vm
 refine au 2 ?_
 refine ak (Y.as (dU rfl rfl) (congrArg Value.bool (decide_eq_false (by decide)))) ?_
 refine au 3 ?_
 refine cm rfl rfl ?_
 refine au 7 ?_
 refine ak (aJ rfl (cells := cZ aq aq) Kr) ?_
 refine af (bA (o := 0) rfl rfl Kr B4 Nb (bf rfl)) rfl ?_
 rintro _ _ ⟨rfl, D, cg⟩
 have ex := aX.one cg
 clear cg
 replace F := F.bT ex
 replace B4 := D; clear D
 replace B4 := B4.congr (cs' := cZ aq aq) rfl
 refine au 4 ?_
 refine hret rfl rfl B4 rfl ?_
 exact ⟨rfl, F.cM So⟩
theorem vz {ds es : Array Value} {p : Pack} (w : World) (HP : cS w ds p) (hp : p.Small) (ok : df p) (h5 : es.size = 3) :
  Ct 12 #[.agg (cZ aq aq), .agg ds, .agg es] w fun e w' => e = .returned (.tuple #[.agg rG, .int .u8 7]) ∧ Ext w w' := by
 have Vp := HP
 obtain ⟨i, p0, p1, p2, p4, p5, pg, rfl, hsrc, _⟩ := Vp
 have F := aX.refl [] w
 refine cV (s := 20) 108 func12 rfl rfl rfl underlying46 rfl Kr rfl ?_
 intro _ hret
 refine aU ?_
 intro _ _ B3 _ ex
 have Vs := B3.lt
 replace F := F.ext ex
 refine aU ?_
 intro _ _ B4 _ ex
 have Vt := B4.lt
 obtain ⟨F,B3⟩ := aY ex F B3
 refine aU ?_
 intro _ _ B5 _ ex
 have Vu := B5.lt
 obtain ⟨F,B3,B4⟩ := bC ex F B3 B4
 refine aU ?_
 intro _ Vq B6 Vm ex
 replace F := F.grow ex Vm
 replace B3 := B3.grow ex Vm
 replace B4 := B4.grow ex Vm
 refine aU ?_
 have X1 := F.cM So
 refine aL func36 rfl (fQ _ (HP.ext X1) hp) ?_
 rintro e _ ⟨A8, k8, c8, _, rfl, T8, _, ex⟩
 obtain ⟨F,B3,B6⟩ := bC ex F B3 B6
 obtain ⟨Vr, _⟩ := T8.1 ok; subst Vr
 refine aU ?_
 refine aL func37 rfl (za _ A8 k8 c8) ?_
 rintro e _ ⟨rfl, ex⟩
 obtain ⟨F,B6⟩ := aY ex F B6
 refine aU ?_
 intro _ Vn _ Vl ex
 have Vo : Vq < Vn := Nat.lt_of_lt_of_le B6.lt Vl
 replace F := F.grow ex Vl
 replace B6 := B6.grow ex Vl
 refine aU ?_
 intro _ D cg
 have ex := aX.one cg
 clear cg
 obtain ⟨F,B6⟩ := rL ex F B6
 clear D
 refine au 10 ?_
 refine bP rfl rfl ?_
 refine au 2 ?_
 refine ak (aJ rfl (cells := rG) Kr) ?_
 refine aU ?_
 intro _ D cg
 have ex := aX.one cg
 clear cg
 replace F := F.bT ex
 replace B6 := D; clear D
 replace B6 := B6.congr (cs' := rG) rfl
 refine aU ?_
 refine hret rfl rfl B6 rfl ?_
 exact ⟨rfl, F.cM So⟩
theorem yL : ¬ df Pack.zero := by decide
theorem lr : Pack.zero.Small := by refine ⟨by decide, by decide, ?_⟩; decide
theorem zn (w : World) : cS w (dk aq aq aq aq 0 aq aq aq) Pack.zero := ⟨aq, aq, aq, aq, aq, aq, aq, rfl, by decide, Bs.nil _ _, Bs.nil _ _, Bs.nil _ _, Bs.nil _ _, Bs.nil _ _, Bs.nil _ _, Bs.nil _ _⟩
theorem CN (w : World) : Ct 7 #[] w fun e w' => e = .returned (.bool true) ∧ Ext w w' := by
 have F := aX.refl [] w
 refine aj 42 func7 rfl rfl rfl rfl ?_
 intro _ hret
 refine aU ?_
 refine af (aB (z := .int .u8 0) Tn.u Kr rfl rfl rfl rfl rfl) rfl ?_
 rintro _ _ ⟨_, rfl, D1, _, ex⟩
 replace F := F.ext ex
 have H1 := aZ (xs := [1]) (D1.congr rfl) rfl
 refine aL func28 rfl (jN 1 Om _) ?_
 rintro e _ ⟨_, rfl, H2, _, ex⟩
 refine aU ?_
 replace F := F.ext ex
 have Vs := H1.ext ex
 refine aL func27 rfl (zr _ Vs Om Om H2) ?_
 rintro e w3 ⟨_, _, rfl, HP, HK, ex⟩
 replace F := F.ext ex
 have Vt := HP; obtain ⟨i, p0, p1, p2, p4, p5, pg, rfl, hsrc, _⟩ := Vt; have Vu := HK; obtain ⟨k0, k1, k2, rfl, _⟩ := Vu; have C3 := aX.refl [] w3; have z3 := F.size
 refine aU ?_
 intro _ Vv B1 Vn ex
 have Vx := ex.size
 replace F := F.grow ex Vn
 replace C3 := C3.grow ex Vn
 refine aU ?_
 intro _ Vp B2 Vl ex
 have Vq : Vv < Vp := Nat.lt_of_lt_of_le B1.lt Vl
 replace F := F.grow ex Vl
 replace C3 := C3.grow ex Vl
 replace B1 := B1.grow ex Vl
 refine aU ?_
 intro _ D cg
 have ex := aX.one cg
 clear cg
 obtain ⟨F,C3,B2⟩ := AN ex F C3 B2
 replace B1 := D; clear D
 replace B1 := B1.congr (cs' := dk i p0 p1 p2 (Ku [1] (pa 1)).leaf.src p4 p5 pg) rfl
 refine aU ?_
 intro _ D cg
 have ex := aX.one cg
 clear cg
 obtain ⟨F,C3,B1⟩ := AN ex F C3 B1
 replace B2 := D; clear D
 replace B2 := B2.congr (cs' := dw k0 k1 k2) rfl
 refine au 5 ?_
 refine ak (aJ rfl (cells := cZ aq aq) Kr) ?_
 refine aU ?_
 have X2 := C3.cM So
 have okp := vJ (ident := [1]) (pa 1) (by decide) (by decide)
 refine aL func12 rfl (vz _ (HP.ext X2) (dR okp) okp rfl) ?_
 rintro e _ ⟨rfl, ex⟩
 obtain ⟨F,B2⟩ := aY ex F B2
 have z4 := F.size
 refine aU ?_
 intro _ Vw _ Vm ex
 have Vr : Vp < Vw := Nat.lt_of_lt_of_le B2.lt Vm
 replace F := F.grow ex Vm
 replace B2 := B2.grow ex Vm
 refine aU ?_
 intro _ D cg
 have ex := aX.one cg
 clear cg
 obtain ⟨F,B2⟩ := rL ex F B2
 clear D
 refine au 5 ?_
 refine ak (aJ rfl (cells := cZ aq aq) Kr) ?_
 refine ak (aJ rfl (cells := dk aq aq aq aq 0 aq aq aq) Kr) ?_
 refine aU ?_
 refine aL func12 rfl (Aj _ rfl (zn _) lr yL rfl) ?_
 rintro e _ ⟨rfl, ex⟩
 replace F := F.ext ex
 have z5 := F.size
 refine aU ?_
 intro _ _ _ Vo ex
 replace F := F.grow ex Vo
 refine aU ?_
 intro _ D cg
 have ex := aX.one cg
 clear cg
 replace F := F.bT ex
 clear D
 refine au 6 ?_
 refine ak (bg rfl Tn.u Tn.u (show _ = (0 : Int) from rfl)) ?_
 refine au 3 ?_
 refine kH 32 (bg rfl Tn.u Tn.u (show _ = (7 : Int) from rfl)) ?_
 refine au 4 ?_
 refine kH 37 (bg rfl Tn.u Tn.u (show _ = (3 : Int) from rfl)) ?_
 refine aU ?_
 refine hret rfl ?_
 exact ⟨rfl, F.cM So⟩
end
section
open Go.RowKit Tryz
attribute [local irreducible] Y Ef WL WC WK WQ WM cx WN WF cT WJ gZ WG mR WR qo
open Wire Nd Hk
section
variable {P : Program} {L : List (Nat × Value)} {w : World} {ty t e : TypeId} {x y : Operand}
theorem Fv {z : Array Value} {sz n i : Nat} (hz : z.size = sz) (hi : i < n) : (((madeCells z (n * sz)).toList.drop (i * sz)).take sz).toArray = z := by
 have hm : (i + 1) * sz ≤ n * sz := Nat.mul_le_mul_right sz Om
 rw [Nat.add_mul, Nat.one_mul] at hm
 apply Array.ext'
 apply List.ext_getElem
 ·simp [madeCells]; omega
 ·intro j _ h2
  have hj : j < sz := by simp at h2; omega
  simp only [madeCells, Array.toList_map, List.getElem_take, List.getElem_drop, List.getElem_map, Array.toList_range, List.getElem_range, hz]
  rw [Nat.mul_comm, Nat.mul_add_mod, Nat.mod_eq_of_lt hj]
  simp [hz, hj]
theorem Bz {n : Nat} {a b : Int} {k k' : IntKind} {z : Value} {sz bytes : Nat} (hx : ev L x = some (.int k a)) (hy : ev L y = some (.int k' b)) (hu : P.underlying t = some (.slice e)) (hi : (P.info? e).map (fun i => (i.zero, i.size, i.bytes)) = some (some z, sz, bytes))
    (ha : a = (n : Int)) (hb : b = (n : Int)) (hbytes : (bytes : Int) * n ≤ 281474976710656) (Vl : (n : Int) ≤ 9223372036854775807) : Ef P L w (.makeSlice t x y) ty (Df w e n (madeCells z.cells (n * sz))) := Ef.run fun ρ hρ => by
  subst ha; subst hb
  refine ⟨_, w.alloc (.cells (madeCells z.cells (n * sz)) e), ⟨w.heap.size, rfl, ao.new w e _, Nat.le_refl _, Ext.alloc w _⟩, fun _ _ _ _ => ?_⟩
  cases hq : P.info? e with
  | none => simp [hq] at hi
  | some i =>
    simp only [hq, Option.map_some, Option.some.injEq, Prod.mk.injEq] at hi
    have hr := run_make (P := P) w t e i z hu hq hi.1 k k' n n Om Om (by rw [hi.2.2]; exact hbytes) Vl
    simp only [Int.toNat_natCast, hi.2.1] at hr
    simp [execOp, hρ _ _ hx, hρ _ _ hy, hr]
end
def Mq : Array Value := wT aq aq aq aq 0 aq aq aq aq
theorem Kt (w : World) : j6 w Mq ⟨Pack.zero, []⟩ := ⟨aq, aq, aq, aq, aq, aq, aq, aq, rfl, by decide, Bs.nil _ _, Bs.nil _ _, Bs.nil _ _, Bs.nil _ _, Bs.nil _ _, Bs.nil _ _, Bs.nil _ _, Bs.nil _ _⟩
theorem BQ {w : World} {g n : Nat} {t : TypeId} (B : ao w g t (madeCells Mq (n * 9))) : mI j6 9 w (some ⟨g, 0, none⟩) n (List.replicate n ⟨Pack.zero, []⟩) := by
 refine ⟨by simp, (madeCells Mq (n * 9)).toList, by simp [madeCells], .inr ⟨g, 0, rfl, fun i v hv => ?_⟩, fun i x hx => ?_⟩
 ·rw [Nat.zero_add]; exact B.get (by simpa using hv)
 ·obtain ⟨hi, e⟩ := List.getElem?_eq_some_iff.1 hx
  rw [List.getElem_replicate] at e
  subst e
  rw [Fv (show Mq.size = 9 from rfl) (by simpa using hi)]
  exact Kt w
theorem ng {z : Int} {ps : List (Nat × Nat)} {n : Nat} : ∀ x ∈ zL z ps n, x.pk.Small ∧ x.way.length ≤ 1000 := fun x hx => by
 obtain ⟨i, _, rfl⟩ := List.mem_map.1 hx
 generalize ps.getD i (0, 0) = p
 obtain ⟨_, s2, s3⟩ := dR (vJ (ident := [UInt8.ofNat p.1]) (zZ p) (by simp) (by simp))
 have h0 : (Fq p).length = 32 := cK _
 refine ⟨⟨?_, s2, s3⟩, ?_⟩
 ·show (Jq z i p).length ≤ 100
  unfold Jq Ig; split
  ·simp
  ·split
   ·simp
   ·omega
 ·show (BF z i p).length ≤ 1000
  unfold BF Ip; split
  ·simp
  ·split
   ·rw [mf]; omega
   ·simp
theorem ug {j seed inf : Lb} {k : Nat} {x : Gs} (hj : j.length ≤ 1000) (hw : x.way.length ≤ 1000) : (hO j seed inf k x).1.Fit ∧ (hO j seed inf k x).2 < 256 := by
 unfold hO
 split
 ·exact ⟨⟨Nat.zero_le _, Nat.zero_le _, Nat.zero_le _⟩, by decide⟩
 ·refine ⟨⟨by show (lB x.pk).length ≤ _; rw [sD]; omega, ?_, ?_⟩, yk _ _ _ _ _⟩
  ·show (sl _ _ _ _ _).1.length ≤ _
   unfold sl; split
   ·exact Nat.zero_le _
   ·rename_i h; show (rk _ _).2.1.length ≤ _; rw [sV Om]; omega
  ·have hb := yE j x.way
   show (sl _ _ _ _ _).2.1.length ≤ _
   unfold sl; split
   ·exact Nat.zero_le _
   ·show (Gm.jz _ _ _ _).length ≤ _; rw [Gm.jD]; omega
theorem Ep {x : qf} (hx : x.ctx.Small) (ht : x.tag.length ≤ 1000) (h6 : x.sig.length ≤ 1000) : (si x).length ≤ 5000 := by
 have h1 := fS hx; have h2 := bu x.tag.length; have h3 := bu x.sig.length
 unfold si oR; simp [gA, gd]; omega
theorem Am {ts : List (List UInt8)} {x : qf} {seed : Lb} {gs : List Gs} (hj : (ts.getD 0 []).length ≤ 1000) (hx : x.ctx.Small) (ht : x.tag.length ≤ 1000) (h6 : x.sig.length ≤ 1000) (hs : ∀ x ∈ gs, x.pk.Small ∧ x.way.length ≤ 1000) : (dI ts x gs seed).1.Fit ∧ (dI ts x gs seed).2 < 256 := by
 have hz : kX.zero.Fit := ⟨Nat.zero_le _, fun g h => (by cases h), Nat.zero_le _⟩
 have hb := Ep hx ht h6
 have hw : ∀ i, (gs.getD i ⟨Pack.zero, []⟩).way.length ≤ 1000 := fun i => by
  rw [List.getD_eq_getElem?_getD]
  cases h : gs[i]? with
  | none => exact Nat.zero_le _
  | some y => exact (hs y (List.mem_of_getElem? h)).2
 unfold dI
 split
 ·exact ⟨hz, by show _ < 256; omega⟩
 ·split
  ·exact ⟨hz, by show _ < 256; omega⟩
  ·rename_i Vl
   unfold Io; split
   ·exact ⟨hz, (ug hj (hw _)).2⟩
   ·refine ⟨⟨by simp; omega, fun g hg => ?_, ?_⟩, by show _ < 256; omega⟩
    ·obtain ⟨i, _, rfl⟩ := List.mem_map.1 hg
     exact (ug hj (hw _)).1
    ·show (Gm.jz _ _ _ _).length ≤ _; rw [Gm.jD]; omega
theorem mY (ss : Array Value) (ts : List (List UInt8)) (cs : Array Value) (i : qf) (A : Oa) (n c : Nat) (ps : List (Nat × Nat)) (od : Int) (B : Oa) (m d : Nat) (seed : Lb) (w : World) (HS : eW w ss ts) (_hs : ∀ i, (ts.getD i []).length ≤ maxLen) (HI : Ia w cs i) (HP : mI uY 2 w A n ps) (hod : (Lit.int .u8 od).wf = true) (HB : Bs w B m seed) (_hm : m ≤ maxLen) :
  Ct 5 #[.agg ss, .agg cs, .slice A n c, .int .u8 od, .slice B m d] w fun e w' => e = .returned (.bool true) ∧ Below w.heap.size w w' := by
 have E := Ext.refl w
 have hpl := HP.1
 have hdl := HB.1
 have hsz := HS.size
 have ho : 0 ≤ od ∧ od ≤ 255 := bounds_u8 hod
 obtain ⟨i0, i1, i2, i3, i4, rfl, hep, hfz, v0, v1, v2, v3, v4⟩ := HI.1
 have l3 := v3.1; have l4 := v4.1
 obtain ⟨J, nj, cj, Vm, HJ⟩ := HS.get (i := 0) Om
 obtain ⟨P1, Vy, Vz, Vn, Vo⟩ := HS.get (i := 1) Om
 have lj := HJ.1; have l1 := Vo.1
 refine aj 117 func5 rfl rfl rfl rfl ?_
 intro _ hret
 refine aU ?_
 intro _ _ B5 _ ex
 have VA := B5.lt
 replace E := E.ext ex
 refine aU ?_
 intro _ _ B6 _ ex
 obtain ⟨E,B5⟩ := aY ex E B5
 refine aU ?_
 refine aL func7 rfl (CN _) ?_
 rintro e _ ⟨rfl, ex⟩
 obtain ⟨E,B5,B6⟩ := bC ex E B5 B6
 refine au 4 ?_
 refine cm rfl rfl ?_
 refine aU ?_
 refine aL func15 rfl (oJ _ (qk.ctx (HI.1.ext E)).at hep) ?_
 rintro e _ ⟨rfl, ex⟩
 obtain ⟨E,B5,B6⟩ := bC ex E B5 B6
 refine au 1 ?_
 refine ic (kz rfl) rfl (fun q0 => ?_) (fun q0 => ?_)
 ·refine au 36 ?_
  refine bP rfl rfl ?_
  refine aU ?_
  refine hret rfl ?_
  exact ⟨rfl, E⟩
 ·refine au 4 ?_
  refine aG 27 rfl rfl (fF rfl rfl) rfl (fun q1 => ?_) (fun q1 => ?_)
  ·refine au 31 ?_
   refine bP rfl rfl ?_
   refine aU ?_
   refine hret rfl ?_
   exact ⟨rfl, E⟩
  ·refine au 5 ?_
   refine aG 33 rfl rfl (fF rfl rfl) rfl (fun q2 => ?_) (fun q2 => ?_)
   ·refine au 25 ?_
    refine bP rfl rfl ?_
    refine aU ?_
    refine hret rfl ?_
    exact ⟨rfl, E⟩
   ·refine au 4 ?_
    refine aG 39 rfl rfl (fF rfl rfl) rfl (fun q3 => ?_) (fun q3 => ?_)
    ·refine au 20 ?_
     refine bP rfl rfl ?_
     refine aU ?_
     refine hret rfl ?_
     exact ⟨rfl, E⟩
    ·refine au 4 ?_
     refine aG 44 rfl rfl (fF rfl rfl) rfl (fun q4 => ?_) (fun q4 => ?_)
     ·refine au 15 ?_
      refine bP rfl rfl ?_
      refine aU ?_
      refine hret rfl ?_
      exact ⟨rfl, E⟩
     ·refine au 3 ?_
      refine kH 49 (ah rfl Tn.u rfl (B5.get Vn)) ?_
      refine au 1 ?_
      refine aG 49 rfl rfl (fF rfl rfl) rfl (fun q5 => ?_) (fun q5 => ?_)
      ·refine au 9 ?_
       refine bP rfl rfl ?_
       refine aU ?_
       refine hret rfl ?_
       exact ⟨rfl, E⟩
      ·refine au 3 ?_
       refine kH 55 (ah rfl Tn.u rfl (B5.get Vm)) ?_
       refine au 1 ?_
       refine aG 55 rfl rfl (fF rfl rfl) rfl (fun q6 => ?_) (fun q6 => ?_)
       ·refine au 3 ?_
        refine bP rfl rfl ?_
        refine aU ?_
        refine hret rfl ?_
        exact ⟨rfl, E⟩
       ·refine au 3 ?_
        refine cm rfl rfl ?_
        have hsm : i.ctx.Small := by simpa using q0
        refine au 6 ?_
        refine ak (bg rfl Tn.u Tn.u (show _ = od from br Om Om)) ?_
        refine aL func16 rfl (vv od _ (HP.ext E fun _ _ h => h) Om) ?_
        rintro e w3 ⟨A1, c1, _, _, rfl, HG, _, ex⟩
        obtain ⟨E,B5,B6⟩ := bC ex E B5 B6
        have Z3 := Ext.refl w3
        refine au 17 ?_
        refine cm rfl rfl ?_
        refine au 4 ?_
        refine ak (aV (cs := ss) rfl Tn.u rfl (by rw [hsz]; kernel_rfl) B5) ?_
        refine aU ?_
        refine aL func21 rfl (rf (G := ⟨A1, n, c1⟩) (D := ⟨B, m, d⟩) _ (HS.ext E) Om Om (HI.1.ext E) hsm Om Om (HG.ext Z3 fun _ _ h => j6.ext h Z3) ng (Bs.ext HB E) (by show m ≤ 1000; omega)) ?_
        rintro e w4 ⟨_, rfl, HM, ex⟩
        obtain ⟨E,B5,B6,Z3⟩ := bU ex E B5 B6 Z3
        have Z4 := Ext.refl w4; obtain ⟨hfit, hcd⟩ := Am (ts := ts) (x := i) (seed := seed) Om hsm Om Om (ng (z := od) (ps := ps) (n := n)); obtain ⟨y0, y1, rfl, _⟩ := id HM
        have z83 := Z3.size; have b5 := B5.lt; have b6 := B6.lt
        refine aU ?_
        intro VB VC (Vl : ao _ _ _ (cZ aq aq)) Vp ex
        obtain ⟨E,B5,B6,Z3,Z4⟩ := gQ ex E B5 B6 Z3 Z4
        refine aU ?_
        intro _ Vq cg
        replace E := E.aw cg Om; replace Z3 := Z3.aw cg Om; replace Z4 := Z4.aw cg Om; replace B5 := B5.aw cg Om; replace B6 := B6.aw cg Om; replace Vl := Vq.congr (cs' := cZ y0 y1) rfl
        refine au 5 ?_
        refine ak (aV (cs := ss) rfl Tn.u rfl (by rw [hsz]; kernel_rfl) B5) ?_
        refine aU ?_
        refine aL func20 rfl (uy (G := ⟨A1, n, c1⟩) (D := ⟨B, m, d⟩) _ (HS.ext E) Om Om (HI.1.ext E) hsm Om Om (HG.ext Z3 fun _ _ h => j6.ext h Z3) ng (Bs.ext HB E) (by show m ≤ 1000; omega)) ?_
        rintro e w5 ⟨_, rfl, HN, _, ex⟩
        obtain ⟨E,B5,B6,Z4,Vl⟩ := gQ ex E B5 B6 Z4 Vl
        have Z5 := Ext.refl w5; obtain ⟨u0, u1, rfl, _⟩ := id HN
        have VD := B5.lt; have VE := B6.lt; have Vr := Vl.lt
        refine aU ?_
        intro VF VG (Vs : ao _ _ _ (cZ aq aq)) Vt ex
        obtain ⟨E,B5,B6,Z4,Vl,Z5⟩ := gL ex E B5 B6 Z4 Vl Z5
        refine aU ?_
        intro _ Vu cg
        replace E := E.aw cg Om; replace Z4 := Z4.aw cg Om; replace Z5 := Z5.aw cg Om; replace B5 := B5.aw cg Om; replace B6 := B6.aw cg Om; replace Vl := Vl.aw cg Om; replace Vs := Vu.congr (cs' := cZ u0 u1) rfl
        refine au 9 ?_
        refine ak (Y.as (jr rfl rfl) (congrArg Value.bool (decide_eq_false (fun h => h rfl)))) ?_
        refine au 1 ?_
        refine kH 91 (aV rfl Tn.u rfl Kr (by assumption)) ?_
        refine kH 91 (aV rfl Tn.u rfl Kr (by assumption)) ?_
        refine fE 91 rfl rfl func22 rfl rfl rfl (uP _ (HM.ext Z4).at (HN.ext Z5).at hfit hfit) rfl ?_
        rintro e _ ⟨rfl, ex⟩
        refine au 1 ?_
        obtain ⟨E,B5,B6⟩ := bC ex E B5 B6
        rw [decide_eq_true rfl]
        refine au 4 ?_
        refine cm rfl rfl ?_
        refine au 7 ?_
        refine bH (cA rfl rfl) rfl (fun q7 => ?_) (fun q7 => ?_)
        ·refine au 7 ?_
         refine bP rfl rfl ?_
         refine aU ?_
         refine hret rfl ?_
         exact ⟨rfl, E⟩
        ·refine aU ?_
         refine fE 100 rfl rfl func19 rfl rfl rfl (rr _ (HI.1.ext E)) rfl ?_
         rintro e _ ⟨rfl, ex⟩
         obtain ⟨E,B5,B6⟩ := bC ex E B5 B6
         refine au 1 ?_
         refine qQ 100 rfl rfl (kz rfl) rfl (fun q8 => ?_) (fun q8 => ?_)
         ·refine au 3 ?_
          refine bP rfl rfl ?_
          refine aU ?_
          refine hret rfl ?_
          exact ⟨rfl, E⟩
         ·refine au 3 ?_
          refine cm rfl rfl ?_
          have okx : iB i := by simpa using q8
          refine aU ?_
          refine af (Bz (n := 65) (z := .agg Mq) (sz := 9) (bytes := 200) rfl rfl Tn.u Kr rfl rfl Om Om) rfl ?_
          rintro _ _ ⟨Vv, rfl, Vw, _, ex⟩
          obtain ⟨E,B5,B6⟩ := bC ex E B5 B6
          refine au 5 ?_
          refine ak (aV (cs := ss) rfl Tn.u rfl (by rw [hsz]; kernel_rfl) B5) ?_
          refine aU ?_
          refine aL func21 rfl (rf (G := ⟨some ⟨Vv, 0, none⟩, 65, 65⟩) (D := ⟨B, m, d⟩) _ (HS.ext E) Om Om (HI.1.ext E) hsm Om Om (BQ Vw) (fun x hx => by rw [(List.mem_replicate.1 hx).2]; exact ⟨lr, Nat.zero_le _⟩) (Bs.ext HB E) (by show m ≤ 1000; omega)) ?_
          rintro e _ ⟨_, rfl, HK, ex⟩
          replace E := E.ext ex
          have e6 : (dI ts i (List.replicate 65 ⟨Pack.zero, []⟩) seed).2 = 6 := by unfold dI; rw [if_neg (fun h => h okx), if_pos (by simp)]
          obtain ⟨t0, t1, rfl, _⟩ := id HK
          have zE := E.size
          refine aU ?_
          intro VH VI (VJ : ao _ _ _ (cZ aq aq)) Vx ex
          replace E := E.ext ex
          refine aU ?_
          intro _ _ cg
          replace E := E.aw cg Om
          refine au 6 ?_
          refine ak (bg rfl Tn.u Tn.u (show _ = (6 : Int) from by rw [e6]; rfl)) ?_
          refine aU ?_
          refine hret rfl ?_
          exact ⟨rfl, E⟩
end
end Go.Proofs.YtgfafidlkldeaaaGreat
