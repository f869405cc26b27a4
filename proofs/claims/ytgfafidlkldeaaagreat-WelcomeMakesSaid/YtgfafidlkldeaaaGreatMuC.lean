/- Infos and welcomes: which are small, which are the same; what the reference says of them. No conditions: contracts of the reference's functions. -/
import Derived.Test.YtgfafidlkldeaaaGreatRowW
import Derived.Test.YtgfafidlkldeaaaGreatNdK
import Derived.Test.YtgfafidlkldeaaaGreatAu
import Derived.Test.YtgfafidlkldeaaaGreatVk
set_option linter.unusedVariables false
set_option linter.unusedSimpArgs false
set_option maxHeartbeats 4000000
set_option maxRecDepth 4000
namespace Go.Proofs.YtgfafidlkldeaaaGreat
section
open Go.RowKit
open Nd Wire
structure qf where
 ctx : Ctx
 tag : List UInt8
 frm : Int
 sig : List UInt8
structure kM where
 ref : List UInt8
 enc : List UInt8
 box : List UInt8
structure kX where
 guests : List kM
 info : List UInt8
def kM.zero : kM := ⟨[], [], []⟩
def kX.zero : kX := ⟨[], []⟩
theorem IS {a b : qf} : a = b ↔ a.ctx = b.ctx ∧ a.tag = b.tag ∧ a.frm = b.frm ∧ a.sig = b.sig := by
 constructor
 ·intro h; subst h; exact ⟨rfl, rfl, rfl, rfl⟩
 ·rintro ⟨_, _, _, _⟩; cases a; cases b; simp_all
theorem pS {a b : kM} : a = b ↔ a.ref = b.ref ∧ a.enc = b.enc ∧ a.box = b.box := by
 constructor
 ·intro h; subst h; exact ⟨rfl, rfl, rfl⟩
 ·rintro ⟨_, _, _⟩; cases a; cases b; simp_all
theorem na {a b : kX} : a = b ↔ a.guests = b.guests ∧ a.info = b.info := by
 constructor
 ·intro h; subst h; exact ⟨rfl, rfl⟩
 ·rintro ⟨_, _⟩; cases a; cases b; simp_all
instance (a b : qf) : Decidable (a = b) := decidable_of_iff _ IS.symm
instance (a b : kM) : Decidable (a = b) := decidable_of_iff _ pS.symm
instance : DecidableEq kM := fun a b => inferInstance
instance (a b : kX) : Decidable (a = b) := decidable_of_iff _ na.symm
def Nf (g : Hd) (ep : Nat) (t u : Hd) : Array Value := #[.slice g.A g.n g.c, .int .u64 (ep : Int), .slice t.A t.n t.c, .slice u.A u.n u.c]
def MT (g : Hd) (ep : Nat) (t u tg : Hd) (z : Int) (sg : Hd) : Array Value := #[.slice g.A g.n g.c, .int .u64 (ep : Int), .slice t.A t.n t.c, .slice u.A u.n u.c, .slice tg.A tg.n tg.c, .int .i64 z, .slice sg.A sg.n sg.c]
def dw (a b c : Hd) : Array Value := #[.slice a.A a.n a.c, .slice b.A b.n b.c, .slice c.A c.n c.c]
def JZ (B : Hd → List UInt8 → Prop) (cs : Array Value) (x : Ctx) : Prop := ∃ g t u, cs = Nf g x.ep t u ∧ x.ep < 18446744073709551616 ∧ B g x.grp ∧ B t x.tree ∧ B u x.trans
def qk (B : Hd → List UInt8 → Prop) (cs : Array Value) (x : qf) : Prop :=
 ∃ g t u tg sg, cs = MT g x.ctx.ep t u tg x.frm sg ∧ x.ctx.ep < 18446744073709551616 ∧ (-9223372036854775808 ≤ x.frm ∧ x.frm ≤ 9223372036854775807) ∧ B g x.ctx.grp ∧ B t x.ctx.tree ∧ B u x.ctx.trans ∧ B tg x.tag ∧ B sg x.sig
def DW (B : Hd → List UInt8 → Prop) (cs : Array Value) (x : kM) : Prop := ∃ a b c, cs = dw a b c ∧ B a x.ref ∧ B b x.enc ∧ B c x.box
def iz (w : World) (cs : Array Value) (x : qf) : Prop := qk (nI w) cs x
def ry (w : World) (cs : Array Value) (x : kM) : Prop := DW (nI w) cs x
def Dc (w : World) (cs : Array Value) (x : kX) : Prop := ∃ h0 h1, cs = cZ h0 h1 ∧ mI ry 3 w h0.A h0.n x.guests ∧ nI w h1 x.info
section
variable {B B' : Hd → List UInt8 → Prop} {cs : Array Value} {w w' : World}
theorem qk.imp {x : qf} (h : qk B cs x) (f : ∀ h xs, B h xs → B' h xs) : qk B' cs x := by
 obtain ⟨g, t, u, tg, sg, e, he, hz, a, b, c, d, k⟩ := h
 exact ⟨g, t, u, tg, sg, e, he, hz, f _ _ a, f _ _ b, f _ _ c, f _ _ d, f _ _ k⟩
theorem DW.imp {x : kM} (h : DW B cs x) (f : ∀ h xs, B h xs → B' h xs) : DW B' cs x := by
 obtain ⟨a, b, c, e, h1, h2, h3⟩ := h
 exact ⟨a, b, c, e, f _ _ h1, f _ _ h2, f _ _ h3⟩
theorem JZ.at {x : Ctx} (h : JZ (nI w) cs x) : lT w cs x := by
 obtain ⟨g, t, u, e, he, a, b, c⟩ := h
 exact ⟨g.A, t.A, u.A, g.n, g.c, t.n, t.c, u.n, u.c, e, a, b, c⟩
theorem qk.ctx {x : qf} (h : qk B cs x) : JZ B ((cs.toList.drop 0).take 4).toArray x.ctx := by
 obtain ⟨g, t, u, tg, sg, rfl, he, hz, a, b, c, d, k⟩ := h
 exact ⟨g, t, u, rfl, he, a, b, c⟩
theorem iz.ext {x : qf} (h : iz w cs x) (e : Ext w w') : iz w' cs x := qk.imp h fun _ _ b => Bs.ext b e
theorem ry.ext {x : kM} (h : ry w cs x) (e : Ext w w') : ry w' cs x := DW.imp h fun _ _ b => Bs.ext b e
end
def iB (i : qf) : Prop := i.ctx.grp.length ≤ 64 ∧ i.ctx.tree.length = 32 ∧ i.ctx.trans.length = 32 ∧ i.tag.length = 32 ∧ (0 ≤ i.frm ∧ i.frm ≤ 65535) ∧ i.sig.length = 64
instance (i : qf) : Decidable (iB i) := by unfold iB; infer_instance
def ky (j y : Lb) : Prop := j.length = 32 ∧ (y.length = 0 ∨ y.length = 32)
instance (j y : Lb) : Decidable (ky j y) := by unfold ky; infer_instance
def kM.Small (g : kM) : Prop := g.ref.length ≤ 100 ∧ g.enc.length ≤ 100 ∧ g.box.length ≤ 200
instance (g : kM) : Decidable g.Small := by unfold kM.Small; infer_instance
def kM.Fit (g : kM) : Prop := g.ref.length ≤ 1000000 ∧ g.enc.length ≤ 1000000 ∧ g.box.length ≤ 1000000
def kX.Small (x : kX) : Prop := x.guests.length < 70 ∧ (∀ g ∈ x.guests, g.Small) ∧ x.info.length ≤ 500
instance (x : kX) : Decidable x.Small := by unfold kX.Small; infer_instance
def kX.Fit (x : kX) : Prop := x.guests.length ≤ 10000 ∧ (∀ g ∈ x.guests, g.Fit) ∧ x.info.length ≤ 1000000
/-! Their bytes. -/
def oR (i : qf) : List UInt8 := cW i.ctx ++ [0] ++ vec i.tag ++ be 4 (Gz i.frm)
def si (i : qf) : List UInt8 := oR i ++ vec i.sig
def gW (j y : Lb) : List UInt8 := if y.length = 0 then vec j ++ [0] else vec j ++ [1] ++ vec y
namespace M20
/-! How they are read. -/
end M20
end
section
open Go.ChangeShapes Go.WideShapes Go.ChangeAt Go.RowKit
section
variable {H : Type} {enc : TypeId × Value → H} {W : World} {base : Nat} {spare : Nat → Bool} {held : Bool}
theorem AR {fuel : Nat} {cs : List Value} {x : DataW H × List MemPlace} (h : DataW.trod enc Tryz.prog W base spare held fuel 40 cs = some x) : ∃ c, lT W cs.toArray c ∧ c.ep < 18446744073709551616 := by
 have h' : DataW.Trod enc Tryz.prog W base spare held 40 (.agg cs.toArray) x.1 x.2 := ⟨fuel, h⟩
 obtain ⟨c', c, e, hx, he, _⟩ := BB h'
 injection e with e
 rw [e]
 exact ⟨c, hx, he⟩
theorem AE {fuel : Nat} {cs : List Value} {x : DataW H × List MemPlace} (h : DataW.trod enc Tryz.prog W base spare held fuel 42 cs = some x) : ∃ p, iz W cs.toArray p := by
 obtain ⟨Vl, hl, hfs⟩ := trod_struct Tryz.underlying42 h
 have hc : Tryz.prog.cellsOf 42 = 7 := by kernel_rfl
 rw [hc] at hl
 have c0 : Tryz.prog.cellsOf 23 = 1 := by kernel_rfl
 have c1 : Tryz.prog.cellsOf 40 = 4 := by kernel_rfl
 have c3 : Tryz.prog.cellsOf 3 = 1 := by kernel_rfl
 obtain ⟨y0, t0⟩ := hfs 0 _ rfl
 obtain ⟨_, t1⟩ := hfs 1 _ rfl
 obtain ⟨_, t2⟩ := hfs 2 _ rfl
 obtain ⟨_, t3⟩ := hfs 3 _ rfl
 obtain ⟨c, ⟨A1, A2, A3, n1, d1, n2, d2, n3, d3, e0, b0, b1, b2⟩, hep⟩ := AR t0
 obtain ⟨A4, n4, k4, r4, e4, b4, _⟩ := bR t1
 obtain ⟨z, e5, z0, z1⟩ := Dt t2
 obtain ⟨A6, n6, k6, r6, e6, b6, _⟩ := bR t3
 have e : cs.drop 0 = _ := FW (o := 0) c1 e0
 rw [pI (o := 4) c0 e4, pI (o := 5) c3 e5, pI (o := 6) c0 e6, Dd hl] at e
 refine ⟨⟨c, r4, z, r6⟩, ⟨A1, n1, d1⟩, ⟨A2, n2, d2⟩, ⟨A3, n3, d3⟩, ⟨A4, n4, k4⟩, ⟨A6, n6, k6⟩, ?_, hep, ⟨z0, z1⟩, b0, b1, b2, b4, b6⟩
 rw [show cs = _ from e]
 rfl
end
end
section
open Go.RowKit
attribute [local irreducible] Y Ef WL WC WK WQ WM cx WN WF cT WJ gZ WG mR
open Wire Nd M20
section
variable {M N k : Nat} {V S S' : List Nat} {w w' w'' : World} {Φ : World → Prop}
end
def OG (gr e : Nat) : Array Value := #[.pointer (some ⟨gr, 0, none⟩), .int .u8 (e : Int)]
def N2 (N : Nat) (S : List Nat) (w : World) (gi gr : Nat) (s : St) (e : Nat) : Prop := ao w gi 214 (OG gr e) ∧ gi ∈ S ∧ gi ≠ gr ∧ Rs N S w gr s
def In (N : Nat) (S : List Nat) (w : World) (gi gr : Nat) : St → Prop
 | .ok xs => N2 N S w gi gr (.ok xs) 0
 | .error c => c ≠ 0 ∧ c < 256 ∧ ∃ s, N2 N S w gi gr s c
section
variable {N M gi gr k e : Nat} {S S' V : List Nat} {w w' : World} {s : St}
end
/-! Wire's flag. -/
/-! Notes. -/
section
variable {N gi gr e : Nat} {S : List Nat} {s : St}
end
/-! What is in a vector, one behind the other. -/
section
variable {N gi gr : Nat} {S V : List Nat} {s : St}
end
end
section
open Go.RowKit Tryz
attribute [local irreducible] Y Ef WL WC WK WQ WM cx WN WF cT WJ gZ WG mR
open Wire Nd M20
section
variable {cs : Array Value} {i : qf} {x : kX} {g : Nat} {t : TypeId}
theorem qd (w : World) (H : iz w cs i) :
  Ct 111 #[.agg cs] w fun e w' => e = .returned (.bool (decide (iB i))) ∧ Ext w w' := by
 obtain ⟨gr, tr, u, tg, sg, rfl, he, hz, a, b, c, d, k⟩ := H
 have n1 := a.1; have n2 := b.1; have n3 := c.1; have n4 := d.1; have n5 := k.1
 have E := Ext.refl w
 refine aj 39 func111 rfl rfl rfl rfl ?_
 intro _ hret
 refine aU ?_
 intro _ _ B1 _ ex
 replace E := E.ext ex
 refine aU ?_
 intro _ _ D3 Vl exA
 refine aU ?_
 intro _ _ cg
 have ex := exA.aw cg Vl; clear cg exA D3
 obtain ⟨E,B1⟩ := aY ex E B1
 refine au 7 ?_
 refine bH (nt rfl rfl) rfl (fun q1 => ?_) (fun q1 => ?_)
 ·refine au 4 ?_
  refine aG 10 rfl rfl (cA rfl rfl) rfl (fun q2 => ?_) (fun q2 => ?_)
  ·refine au 5 ?_
   refine aG 16 rfl rfl (cA rfl rfl) rfl (fun q3 => ?_) (fun q3 => ?_)
   ·refine au 5 ?_
    refine aG 22 rfl rfl (cA rfl rfl) rfl (fun q4 => ?_) (fun q4 => ?_)
    ·refine aU ?_
     refine fE 28 rfl rfl func183 rfl rfl rfl (zw _ _) rfl ?_
     rintro e _ ⟨rfl, ex⟩
     obtain ⟨E,B1⟩ := aY ex E B1
     refine au 2 ?_
     refine ic (bj rfl) rfl (fun q5 => ?_) (fun q5 => ?_)
     ·refine aU ?_
      refine hret rfl ?_
      exact ⟨dJ ⟨fun h => ⟨by omega, by omega, by omega, by omega, (by simpa using q5), by omega⟩, fun h => by have := h.2.2.2.2.2; omega⟩, E⟩
     ·refine aU ?_
      refine hret rfl ?_
      exact ⟨aP fun h => (by rw [decide_eq_true h.2.2.2.2.1] at q5; cases q5), E⟩
    ·refine aU ?_
     refine hret rfl ?_
     exact ⟨aP fun h => by have := h.2.2.2.1; omega, E⟩
   ·refine aU ?_
    refine hret rfl ?_
    exact ⟨aP fun h => by have := h.2.2.1; omega, E⟩
  ·refine aU ?_
   refine hret rfl ?_
   exact ⟨aP fun h => by have := h.2.1; omega, E⟩
 ·refine aU ?_
  refine hret rfl ?_
  exact ⟨aP fun h => by have := h.1; omega, E⟩
theorem tu (w : World) (H : iz w cs i) (hs : i.ctx.Small) (ht : i.tag.length ≤ 1000) :
  Ct 127 #[.agg cs] w fun e w' => ∃ A' k c', e = .returned (.slice A' k c') ∧ Row w' w.heap.size 5 A' k c' ((oR i).map bv) ∧ k ≤ 2000 ∧ Ext w w' := by
 have HC := (qk.ctx H).at
 obtain ⟨gr, tr, u, tg, sg, rfl, he, hz, a, b, c, d, k⟩ := H
 have n4 := d.1
 have E := Ext.refl w
 refine aj 15 func127 rfl rfl rfl rfl ?_
 intro _ hret
 refine aU ?_
 intro Vr Vl B1 _ ex
 have Vw := B1.lt; have Vq := ex.size
 replace E := E.ext ex
 refine aU ?_
 have X := Ext.refl Vr
 have Bo := B1
 refine ur [Vl] Kr 13 rfl ?_; intro Vx ex Vy
 obtain ⟨E,B1,X⟩ := bC ex E B1 X
 refine mO 0 rfl Kr (fun wr (kr : Kept [Vl] _ wr) => eJ 0 4 0 0 Tn.u) rfl ?_
 refine mO 1 rfl Kr (fun wr (kr : Kept [Vl] _ wr) => nZ (o := 0) (s := 4) rfl Tn.u rfl Kr (B1.Cy kr) rfl) rfl ?_
 refine mO 5 rfl Kr (fun wr (kr : Kept [Vl] _ wr) => eJ 4 1 0 4 Tn.u) rfl ?_
 refine mO 6 rfl Kr (fun wr (kr : Kept [Vl] _ wr) => ah rfl Tn.u rfl ((B1.Cy kr).get (i := 4) rfl)) rfl ?_
 refine mO 8 rfl Kr (fun wr (kr : Kept [Vl] _ wr) => eJ 5 1 0 5 Tn.u) rfl ?_
 refine mO 9 rfl Kr (fun wr (kr : Kept [Vl] _ wr) => ah rfl Tn.u rfl ((B1.Cy kr).get (i := 5) rfl)) rfl ?_
 refine mO 10 rfl Kr (fun wr (kr : Kept [Vl] _ wr) => bg rfl Tn.u Tn.u (tV i.frm)) rfl ?_
 refine BP 2 3 Kr ?_ ?_
 ·skip
  have Vm := X.size
  refine fA rfl func101 rfl rfl rfl (kg _ _ _ (HC.ext E) hs) rfl ?_
  rintro e w2 ⟨A2, k2, c2, rfl, R2, Vs, ex⟩
  refine ⟨_, rfl, Kept.ext ex (ku B1.lt pX), ?_⟩
  obtain ⟨E,B1,X⟩ := bC ex E B1 X
  replace R2 := R2.lower Vm
  refine eN 3 Kr ?_; refine mg rfl (aB (z := .int .u8 0) underlying23 Kr rfl rfl rfl rfl rfl) rfl ?_
  rintro _ w3 ⟨g3, rfl, B3, Vt, ex⟩
  refine ⟨Kept.ext ex (ku B1.lt pX), ?_⟩
  obtain ⟨E,B1,X,R2⟩ := bU ex E B1 X R2
  refine eN 4 Kr ?_; refine mg rfl (aQ rfl rfl bF R2 (At.fT (vs := [bv 0]) (B3.congr (by rfl))) rfl (by intro u hu; simp only [List.mem_singleton] at hu; subst hu; rfl) Om Om X.size) rfl ?_
  rintro _ w4 ⟨A4, c4, rfl, R4, be, Vn, hgl⟩
  have kp := Kept.own Vn (ku B1.lt pX) (ku (R2.qH Bo.lt) pX)
  refine ⟨kp, ?_⟩
  replace B1 := B1.Cy kp
  replace X := X.trans be; replace E := E.trans ⟨be.os, be.tape, be.output, be.size, fun k hk => be.block k Om⟩
  replace R4 : Row _ _ _ _ _ _ ((cW i.ctx ++ [0]).map bv) := R4.congr rfl (by simp)
  have Vo := X.size
  refine eN 7 Kr ?_; refine fA rfl func87 rfl rfl rfl (cQ A4 tg.A _ c4 tg.n tg.c _ _ _ R4.bs Om (Bs.ext d E) Om) rfl ?_
  rintro e w5 ⟨A5, k5, c5, rfl, R5, Vu, ex⟩
  refine ⟨_, rfl, Kept.ext ex (ku B1.lt pX), ?_⟩
  obtain ⟨E,B1,X⟩ := bC ex E B1 X
  have Vv := bu tg.n; replace R5 := R5.lower Vo
  have Vp := X.size
  refine eN 11 Kr ?_; refine fA rfl func163 rfl rfl rfl (gl A5 k5 c5 4 (Gz i.frm) _ _ R5.bs Om Om (xm _)) rfl ?_
  rintro e w6 ⟨A6, c6, rfl, R6, ex⟩
  refine ⟨_, rfl, Kept.ext ex (ku B1.lt pX), ?_⟩
  replace E := E.ext ex
  refine mO 12 rfl Kr (fun wr (kr : Kept [Vl] _ wr) => gC rfl) rfl ?_
  refine oe Kr ?_
  refine aU ?_
  refine hret rfl ?_
  exact ⟨A6, _, c6, rfl, ((R6.lower Vp).lower Vq).congr rfl (by unfold oR; rfl), by omega, E⟩
 ·skip
  refine mg rfl (aB (z := .int .u8 0) underlying23 Kr rfl rfl rfl rfl rfl) rfl ?_
  rintro _ w3 ⟨g3, rfl, B3, Vt, ex⟩
  refine ⟨Kept.ext ex (ku B1.lt pX), ?_⟩
  obtain ⟨E,B1,X⟩ := bC ex E B1 X
  have Vm := X.size
  refine eN 2 Kr ?_; refine fA rfl func101 rfl rfl rfl (kg _ _ _ (HC.ext E) hs) rfl ?_
  rintro e w2 ⟨A2, k2, c2, rfl, R2, Vs, ex⟩
  refine ⟨_, rfl, Kept.ext ex (ku B1.lt pX), ?_⟩
  obtain ⟨E,B1,X,B3⟩ := bU ex E B1 X B3
  replace R2 := R2.lower Vm
  refine eN 4 Kr ?_; refine mg rfl (aQ rfl rfl bF R2 (At.fT (vs := [bv 0]) (B3.congr (by rfl))) rfl (by intro u hu; simp only [List.mem_singleton] at hu; subst hu; rfl) Om Om X.size) rfl ?_
  rintro _ w4 ⟨A4, c4, rfl, R4, be, Vn, hgl⟩
  have kp := Kept.own Vn (ku B1.lt pX) (ku (R2.qH Bo.lt) pX)
  refine ⟨kp, ?_⟩
  replace B1 := B1.Cy kp
  replace X := X.trans be; replace E := E.trans ⟨be.os, be.tape, be.output, be.size, fun k hk => be.block k Om⟩
  replace R4 : Row _ _ _ _ _ _ ((cW i.ctx ++ [0]).map bv) := R4.congr rfl (by simp)
  have Vo := X.size
  refine eN 7 Kr ?_; refine fA rfl func87 rfl rfl rfl (cQ A4 tg.A _ c4 tg.n tg.c _ _ _ R4.bs Om (Bs.ext d E) Om) rfl ?_
  rintro e w5 ⟨A5, k5, c5, rfl, R5, Vu, ex⟩
  refine ⟨_, rfl, Kept.ext ex (ku B1.lt pX), ?_⟩
  obtain ⟨E,B1,X⟩ := bC ex E B1 X
  have Vv := bu tg.n; replace R5 := R5.lower Vo
  have Vp := X.size
  refine eN 11 Kr ?_; refine fA rfl func163 rfl rfl rfl (gl A5 k5 c5 4 (Gz i.frm) _ _ R5.bs Om Om (xm _)) rfl ?_
  rintro e w6 ⟨A6, c6, rfl, R6, ex⟩
  refine ⟨_, rfl, Kept.ext ex (ku B1.lt pX), ?_⟩
  replace E := E.ext ex
  refine mO 12 rfl Kr (fun wr (kr : Kept [Vl] _ wr) => gC rfl) rfl ?_
  refine oe Kr ?_
  refine aU ?_
  refine hret rfl ?_
  exact ⟨A6, _, c6, rfl, ((R6.lower Vp).lower Vq).congr rfl (by unfold oR; rfl), by omega, E⟩
theorem wh (w : World) (B : ao w g t cs) (H : iz w cs i) (hs : i.ctx.Small) (ht : i.tag.length ≤ 1000) (h6 : i.sig.length ≤ 1000) :
  Ct 126 #[.pointer (some ⟨g, 0, none⟩)] w fun e w' => ∃ A k c, e = .returned (.slice A k c) ∧ (Bs w' A k (si i) ∧ k ≤ c ∧ k ≤ 4000) ∧ Ext w w' := by
 have HP := H
 obtain ⟨gr, tr, u, tg, sg, rfl, _, _, _, _, _, _, k⟩ := H
 have n5 := k.1
 have E := Ext.refl w
 refine aj 7 func126 rfl rfl rfl rfl ?_
 intro _ hret
 refine aU ?_
 refine aA Kr 6 rfl ?_; intro Vl ex Vm
 obtain ⟨E,B⟩ := aY ex E B
 refine zm [0, 2, 3] ?_
 refine bm 1 rfl func127 rfl (tu _ (HP.ext E) hs ht) ?_
 rintro e _ ⟨A2, k2, c2, rfl, R2, _, ex⟩
 replace E := E.ext ex
 refine aU ?_
 refine bm 4 rfl func87 rfl (cQ A2 sg.A k2 c2 sg.n sg.c _ _ _ R2.bs Om (Bs.ext k E) Om) ?_
 rintro e _ ⟨A3, k3, c3, rfl, R3, _, ex⟩
 replace E := E.ext ex
 have Vn := bu sg.n
 refine zm [5] ?_
 refine hret rfl ?_
 exact ⟨A3, k3, c3, rfl, ⟨R3.bs, R3.cap, by omega⟩, E⟩
theorem qh (w : World) (H : iz w cs i) (hs : i.ctx.Small) (ht : i.tag.length ≤ 1000) (h6 : i.sig.length ≤ 1000) :
  Ct 59 #[.agg cs] w fun e w' => ∃ A k c z, e = .returned (.tuple #[.slice A k c, .int .u8 ((z : Nat) : Int)]) ∧ Told w' (iB i) (si i) A k z ∧ k ≤ c ∧ k ≤ 4000 ∧ Ext w w' := by
 have HP := H
 obtain ⟨gr, tr, u, tg, sg, rfl, _⟩ := H
 have E := Ext.refl w
 refine bK 10 func59 rfl rfl rfl rfl ?_
 intro _ hret
 refine aU ?_
 intro _ Vl B1 _ ex
 replace E := E.ext ex
 refine aU ?_
 refine aL func111 rfl (qd _ (HP.ext E)) ?_
 rintro e _ ⟨rfl, ex⟩
 obtain ⟨E,B1⟩ := aY ex E B1
 refine au 1 ?_
 refine ak (jc (xs := [.tmp 1]) (vs := [.pointer (some ⟨Vl, 0, none⟩)]) rfl) ?_
 refine aL func83 rfl (lA (us := [.pointer (some ⟨Vl, 0, none⟩)]) (Ψ := fun w A k c => Bs w A k (si i) ∧ k ≤ c ∧ k ≤ 4000) _ func126 rfl rfl (fun hok w1 e1 => wh w1 (B1.ext e1) ((HP.ext E).ext e1) hs ht h6)) ?_
 rintro e _ ⟨A3, k3, c3, z3, rfl, T3, N3, ex⟩
 replace E := E.ext ex
 refine aU ?_
 refine hret rfl rfl ?_
 exact ⟨A3, k3, c3, z3, rfl, ⟨fun o => ⟨(T3 (decide_eq_true o)).1, (T3 (decide_eq_true o)).2.1⟩, fun o => ⟨(N3 (decide_eq_false o)).1, (N3 (decide_eq_false o)).2.2.1⟩⟩, (by by_cases o : iB i; exact (T3 (decide_eq_true o)).2.2.1; have h := N3 (decide_eq_false o); omega), (by by_cases o : iB i; exact (T3 (decide_eq_true o)).2.2.2; have h := N3 (decide_eq_false o); omega), E⟩
end
end
section
open Go.RowKit Tryz
attribute [local irreducible] Y Ef WL WC WK WQ WM cx WN WF cT WJ gZ WG mR
open Wire Nd M20
section
variable {cs ds : Array Value} {i : qf} {x : kX}
theorem uP {a b : kX} (w : World) (H : Dc w cs a) (K : Dc w ds b) (hf : a.Fit) (hg : b.Fit) :
  Ct 22 #[.agg cs, .agg ds] w fun e w' => e = .returned (.bool (decide (a = b))) ∧ Ext w w' := by
 obtain ⟨h0, h1, rfl, a0, a1⟩ := H
 obtain ⟨k0, k1, rfl, c0, c1⟩ := K
 have n1 := a0.1; have n2 := a1.1; have n3 := c0.1; have n4 := c1.1
 have f1 := hf.1; have f3 := hf.2.2; have f4 := hg.2.2
 have E := Ext.refl w
 refine aj 66 func22 rfl rfl rfl rfl ?_
 intro _ hret
 refine aU ?_
 intro _ Vv B2 _ ex
 replace E := E.ext ex
 refine aU ?_
 intro _ Vw B3 _ ex
 obtain ⟨E,B2⟩ := aY ex E B2
 refine au 12 ?_
 refine bH (jr rfl rfl) rfl (fun p0 => ?_) (fun p0 => ?_)
 ·refine au 10 ?_
  refine bP rfl rfl ?_
  refine aU ?_
  refine hret rfl ?_
  exact ⟨aP fun h => p0 (by rw [← n1, ← n3, h]), E⟩
 ·refine aU ?_
  refine fE 15 rfl rfl func26 rfl rfl rfl (r8 (Bs.ext a1 E) (Bs.ext c1 E) Om Om) rfl ?_
  rintro e w2 ⟨rfl, ex⟩
  obtain ⟨E,B2,B3⟩ := bC ex E B2 B3
  refine aU ?_
  refine bW rfl (fun Vp => ?_) (fun Vp => ?_)
  ·refine aU ?_
   refine hret rfl ?_
   exact ⟨aP fun h => (by rw [decide_eq_true (na.1 h).2] at Vp; cases Vp), E⟩
  ·have hin : a.info = b.info := by simpa using Vp
   have X := Ext.refl w2
   refine aU ?_
   refine aF (fun n' L wr => ∃ (i : Nat), L = [(2, .pointer (some ⟨Vv, 0, none⟩)), (3, .pointer (some ⟨Vw, 0, none⟩)), (5, .int .i64 (i : Int))] ∧ n' = h0.n - i ∧ (i ≤ h0.n ∧ Ext w2 wr ∧ Ext w wr ∧ a.guests.take i = b.guests.take i)) _ _ ⟨0, rfl, rfl, by omega, X, E, by simp⟩ Ls ?_
   rintro _ n' L wr ⟨i, rfl, rfl, _, X, E, heq⟩ Vy
   have B2 := B2.ext X; have B3 := B3.ext X
   refine aU ?_
   refine al rfl (fun Vz => ?_) (fun Vz => ?_)
   ·obtain ⟨VD, o1, VE, x, e1, _, hx, hcz, hR, hcx⟩ := a0.Dw Om (i := i) Om
    obtain ⟨VF, o2, VG, y, e2, _, hy, hcw, hS, hcy⟩ := c0.Dw Om (i := i) Om
    obtain ⟨g0, g1, g2, rfl, u0, u1, u2⟩ := hR
    obtain ⟨d0, d1, d2, rfl, v0, v1, v2⟩ := hS
    have fx := hf.2.1 x (AL hx); have fy := hg.2.1 y (AL hy)
    have q0 := u0.1; have q1 := u1.1; have q2 := u2.1; have q3 := v0.1; have q4 := v1.1; have q5 := v2.1
    obtain ⟨r0, r1, r2⟩ := fx
    obtain ⟨r3, r4, r5⟩ := fy
    refine aU ?_
    refine et (fun L Vm => ∃ (p7 p8 : Nat), L = [(2, .pointer (some ⟨Vv, 0, none⟩)), (3, .pointer (some ⟨Vw, 0, none⟩)), (5, .int .i64 (i : Int)), (6, .pointer (some ⟨p7, 0, none⟩)), (7, .pointer (some ⟨p8, 0, none⟩))] ∧ (Ext w2 Vm ∧ Ext w Vm ∧ ao Vm p7 37 (dw g0 g1 g2) ∧ ao Vm p8 37 (dw d0 d1 d2))) ?_ ?_
    ·skip
     refine dc Kr 14 rfl ?_; intro VA ex VH
     obtain ⟨X,E,B2,B3⟩ := bU ex X E B2 B3
     have Vx := X
     have Vq := E
     have VB := B2
     have VC := B3
     have X0 := Ext.refl VA
     refine zm [0, 1, 2] ?_
     refine cR 3 rfl Kr (dV (s := 3) (j := i) e1 rfl rfl Tn.u Kr rfl Om) rfl ?_
     refine cR 4 rfl Kr (dH (cs := dw g0 g1 g2) rfl Tn.u rfl Kr fun j v hv => by rw [Addr.add_plain]; exact Vq.Is (hcx j v hv)) rfl ?_
     refine zm [5, 6, 7] ?_
     refine cR 8 rfl Kr (dV (s := 3) (j := i) e2 rfl rfl Tn.u Kr rfl Om) rfl ?_
     refine cR 9 rfl Kr (dH (cs := dw d0 d1 d2) rfl Tn.u rfl Kr fun j v hv => by rw [Addr.add_plain]; exact Vq.Is (hcy j v hv)) rfl ?_
     refine dd (fl := [nT 10 6 37 (dw aq aq aq), nT 11 7 37 (dw aq aq aq)]) rfl ?_
     refine fH ⟨(aS (bw rfl Kr) (aS (bw rfl Kr) av)), of_decide_eq_true rfl, of_decide_eq_true rfl, (aS (⟨rfl, of_decide_eq_true rfl⟩) (aS (⟨rfl, of_decide_eq_true rfl⟩) av)), (aS (aR Kr) (aS (aR Kr) av))⟩ Kr ?_
     rintro _ _ _ ex ⟨⟨g7, rfl, Vn⟩, Vt⟩ ⟨⟨g8, rfl, Vo⟩, Vu⟩ Vl
     replace Vt := Vt g7 rfl
     replace Vu := Vu g8 rfl
     have Vr : g7 ≠ g8 := fun e => Vl g7 rfl (by rw [e]; rfl)
     obtain ⟨X,E,X0⟩ := bC ex X E X0
     refine cL 12 Kr ?_
     refine dx rfl (ag rfl rfl Kr Vn rfl (bf rfl)) rfl ?_
     rintro _ _ ⟨rfl, Vn, cg⟩
     replace X0 := X0.aw cg Vt
     refine ⟨X0, ?_⟩
     replace X := Vx.ext X0
     replace E := Vq.ext X0
     replace Vo := Vo.aw cg Om
     refine cL 13 Kr ?_
     refine dx rfl (ag rfl rfl Kr Vo rfl (bf rfl)) rfl ?_
     rintro _ _ ⟨rfl, Vo, cg⟩
     replace X0 := X0.aw cg Vu
     refine ⟨X0, ?_⟩
     replace X := Vx.ext X0
     replace E := Vq.ext X0
     replace Vn := Vn.aw cg Om
     refine dA Kr ?_
     refine aU ?_
     exact bB _ ⟨g7, g8, rfl, X, E, Vn, Vo⟩ Ls
    rintro L Vm ⟨p7, p8, rfl, X, E, C7, C8⟩
    refine aU ?_
    refine aL func26 rfl (r8 (Bs.ext u0 E) (Bs.ext v0 E) Om Om) ?_
    rintro e _ ⟨rfl, ex⟩
    obtain ⟨X,E,C7,C8⟩ := bU ex X E C7 C8
    refine au 2 ?_
    refine ic (bj rfl) rfl (fun z0 => ?_) (fun z0 => ?_)
    ·refine au 21 ?_
     refine bP rfl rfl ?_
     refine aU ?_
     refine hret rfl ?_
     exact ⟨aP fun h => (by rw [decide_eq_true (pS.1 (Dp hx hy (na.1 h).1)).1] at z0; cases z0), E⟩
    ·refine aU ?_
     refine fE 46 rfl rfl func26 rfl rfl rfl (r8 (Bs.ext u1 E) (Bs.ext v1 E) Om Om) rfl ?_
     rintro e _ ⟨rfl, ex⟩
     obtain ⟨X,E,C7,C8⟩ := bU ex X E C7 C8
     refine au 3 ?_
     refine ic (bj rfl) rfl (fun z1 => ?_) (fun z1 => ?_)
     ·refine au 11 ?_
      refine bP rfl rfl ?_
      refine aU ?_
      refine hret rfl ?_
      exact ⟨aP fun h => (by rw [decide_eq_true (pS.1 (Dp hx hy (na.1 h).1)).2.1] at z1; cases z1), E⟩
     ·refine aU ?_
      refine fE 56 rfl rfl func26 rfl rfl rfl (r8 (Bs.ext u2 E) (Bs.ext v2 E) Om Om) rfl ?_
      rintro e _ ⟨rfl, ex⟩
      obtain ⟨X,E⟩ := aY ex X E
      refine aU ?_
      refine bW rfl (fun Vs => ?_) (fun Vs => ?_)
      ·refine aU ?_
       refine hret rfl ?_
       exact ⟨aP fun h => (by rw [decide_eq_true (pS.1 (Dp hx hy (na.1 h).1)).2.2] at Vs; cases Vs), E⟩
      ·refine au 8 ?_
       refine ae ?_
       refine Vy _ _ ⟨i + 1, rfl, rfl, by omega, X, E, sL hx hy heq (pS.2 ⟨by simpa using z0, by simpa using z1, by simpa using Vs⟩)⟩ Om Ls
   ·refine aU ?_
    refine hret rfl ?_
    exact ⟨bD (na.2 ⟨wG heq Om Om, hin⟩), E⟩
theorem rr (w : World) (H : iz w cs i) :
  Ct 19 #[.agg cs] w fun e w' => e = .returned (.bool (decide (iB i))) ∧ Ext w w' := by
 obtain ⟨gr, tr, u, tg, sg, rfl, he, hz, a, b, c, d, k⟩ := H
 have n1 := a.1; have n2 := b.1; have n3 := c.1; have n4 := d.1; have n5 := k.1
 have E := Ext.refl w
 refine aj 44 func19 rfl rfl rfl rfl ?_
 intro _ hret
 refine aU ?_
 intro _ _ _ _ ex
 replace E := E.ext ex
 refine au 9 ?_
 refine bH (nt rfl rfl) rfl (fun q1 => ?_) (fun q1 => ?_)
 ·refine au 5 ?_
  refine aG 8 rfl rfl (cA rfl rfl) rfl (fun q2 => ?_) (fun q2 => ?_)
  ·refine au 6 ?_
   refine aG 15 rfl rfl (cA rfl rfl) rfl (fun q3 => ?_) (fun q3 => ?_)
   ·refine au 5 ?_
    refine aG 22 rfl rfl (cA rfl rfl) rfl (fun q4 => ?_) (fun q4 => ?_)
    ·refine au 4 ?_
     refine aG 28 rfl rfl (qu rfl rfl) rfl (fun q5 => ?_) (fun q5 => ?_)
     ·refine au 4 ?_
      refine aG 33 rfl rfl (nt rfl rfl) rfl (fun q6 => ?_) (fun q6 => ?_)
      ·refine aU ?_
       refine hret rfl ?_
       exact ⟨dJ ⟨fun h => ⟨by omega, by omega, by omega, by omega, ⟨by omega, by omega⟩, by omega⟩, fun h => by have := h.2.2.2.2.2; omega⟩, E⟩
      ·refine aU ?_
       refine hret rfl ?_
       exact ⟨aP fun h => by have := h.2.2.2.2.1.2; omega, E⟩
     ·refine aU ?_
      refine hret rfl ?_
      exact ⟨aP fun h => by have := h.2.2.2.2.1.1; omega, E⟩
    ·refine aU ?_
     refine hret rfl ?_
     exact ⟨aP fun h => by have := h.2.2.2.1; omega, E⟩
   ·refine aU ?_
    refine hret rfl ?_
    exact ⟨aP fun h => by have := h.2.2.1; omega, E⟩
  ·refine aU ?_
   refine hret rfl ?_
   exact ⟨aP fun h => by have := h.2.1; omega, E⟩
 ·refine aU ?_
  refine hret rfl ?_
  exact ⟨aP fun h => by have := h.1; omega, E⟩
theorem eU (w : World) (H : iz w cs i) (hs : i.ctx.Small) (ht : i.tag.length ≤ 1000) :
  Ct 53 #[.agg cs] w fun e w' => ∃ A' k c', e = .returned (.slice A' k c') ∧ Row w' w.heap.size 5 A' k c' ((oR i).map bv) ∧ k ≤ 2000 ∧ Ext w w' := by
 have HC := (qk.ctx H).at
 obtain ⟨gr, tr, u, tg, sg, rfl, he, hz, a, b, c, d, k⟩ := H
 have n4 := d.1
 have E := Ext.refl w
 refine aj 15 func53 rfl rfl rfl rfl ?_
 intro _ hret
 refine aU ?_
 intro _ _ B1 _ ex
 replace E := E.ext ex
 refine aU ?_
 refine aA Kr 13 rfl ?_; intro Vq ex Vr
 obtain ⟨E,B1⟩ := aY ex E B1
 refine zm [0, 1, 4, 5, 8, 9] ?_
 refine ez 2 3 Kr ?_ ?_
 ·skip
  refine dG rfl func119 rfl rfl rfl (kh _ _ _ (HC.ext E) hs) rfl ?_
  rintro e w2 ⟨A2, k2, c2, rfl, R2, Vp, ex⟩
  refine aU ?_
  replace E := E.ext ex
  have H2 := R2.bs
  refine ez 3 6 Kr ?_ ?_
  ·skip
   refine aO rfl (aB (z := .int .u8 0) Tn.u Kr rfl rfl rfl rfl rfl) rfl ?_
   rintro _ w3 ⟨g3, rfl, B3, Vm, ex⟩
   refine ⟨.inr ex, ?_⟩
   obtain ⟨E,H2⟩ := aY ex E H2
   have H3 := aZ (xs := [(0 : UInt8)]) (B3.congr (by rfl)) rfl
   refine bm 6 rfl func82 rfl (dq tg.A tg.n tg.c _ _ (Bs.ext d E) Om) ?_
   rintro e w4 ⟨A4, k4, c4, rfl, R4, Vn, ex⟩
   refine aU ?_
   obtain ⟨E,H2,H3⟩ := bC ex E H2 H3
   have Vo := bu tg.n; have H4 := R4.bs
   refine bm 7 rfl func122 rfl (dO A2 _ A4 k2 c2 1 1 k4 c4 _ _ _ _ H2 Om H3 Om H4 Om) ?_
   rintro e w5 ⟨A5, c5, rfl, R5, ex⟩
   refine aU ?_
   replace E := E.ext ex
   have H5 := R5.bs
   refine bm 10 rfl func123 rfl (kQ i.frm _) ?_
   rintro e w6 ⟨A6, c6, rfl, R6, ex⟩
   refine aU ?_
   obtain ⟨E,H5⟩ := aY ex E H5
   have H6 := R6.bs
   have Vl := E.size
   refine bm 11 rfl func80 rfl (dh A5 A6 _ c5 4 c6 _ _ _ H5 Om H6 Om) ?_
   rintro e w7 ⟨A7, c7, rfl, R7, ex⟩
   replace E := E.ext ex
   refine zm [12] ?_
   refine hret rfl ?_
   exact ⟨A7, _, c7, rfl, (R7.lower Vl).congr rfl (by unfold oR; simp), by omega, E⟩
  ·skip
   refine dG rfl func82 rfl rfl rfl (dq tg.A tg.n tg.c _ _ (Bs.ext d E) Om) rfl ?_
   rintro e w4 ⟨A4, k4, c4, rfl, R4, Vn, ex⟩
   refine aU ?_
   obtain ⟨E,H2⟩ := aY ex E H2
   have Vo := bu tg.n; have H4 := R4.bs
   refine aM 3 Kr ?_; refine aO rfl (aB (z := .int .u8 0) Tn.u Kr rfl rfl rfl rfl rfl) rfl ?_
   rintro _ w3 ⟨g3, rfl, B3, Vm, ex⟩
   refine ⟨.inr ex, ?_⟩
   obtain ⟨E,H2,H4⟩ := bC ex E H2 H4
   have H3 := aZ (xs := [(0 : UInt8)]) (B3.congr (by rfl)) rfl
   refine bm 7 rfl func122 rfl (dO A2 _ A4 k2 c2 1 1 k4 c4 _ _ _ _ H2 Om H3 Om H4 Om) ?_
   rintro e w5 ⟨A5, c5, rfl, R5, ex⟩
   refine aU ?_
   replace E := E.ext ex
   have H5 := R5.bs
   refine bm 10 rfl func123 rfl (kQ i.frm _) ?_
   rintro e w6 ⟨A6, c6, rfl, R6, ex⟩
   refine aU ?_
   obtain ⟨E,H5⟩ := aY ex E H5
   have H6 := R6.bs
   have Vl := E.size
   refine bm 11 rfl func80 rfl (dh A5 A6 _ c5 4 c6 _ _ _ H5 Om H6 Om) ?_
   rintro e w7 ⟨A7, c7, rfl, R7, ex⟩
   replace E := E.ext ex
   refine zm [12] ?_
   refine hret rfl ?_
   exact ⟨A7, _, c7, rfl, (R7.lower Vl).congr rfl (by unfold oR; simp), by omega, E⟩
 ·skip
  refine aO rfl (aB (z := .int .u8 0) Tn.u Kr rfl rfl rfl rfl rfl) rfl ?_
  rintro _ w3 ⟨g3, rfl, B3, Vm, ex⟩
  refine ⟨.inr ex, ?_⟩
  replace E := E.ext ex
  have H3 := aZ (xs := [(0 : UInt8)]) (B3.congr (by rfl)) rfl
  refine bm 2 rfl func119 rfl (kh _ _ _ (HC.ext E) hs) ?_
  rintro e w2 ⟨A2, k2, c2, rfl, R2, Vp, ex⟩
  refine aU ?_
  obtain ⟨E,H3⟩ := aY ex E H3
  have H2 := R2.bs
  refine bm 6 rfl func82 rfl (dq tg.A tg.n tg.c _ _ (Bs.ext d E) Om) ?_
  rintro e w4 ⟨A4, k4, c4, rfl, R4, Vn, ex⟩
  refine aU ?_
  obtain ⟨E,H3,H2⟩ := bC ex E H3 H2
  have Vo := bu tg.n; have H4 := R4.bs
  refine bm 7 rfl func122 rfl (dO A2 _ A4 k2 c2 1 1 k4 c4 _ _ _ _ H2 Om H3 Om H4 Om) ?_
  rintro e w5 ⟨A5, c5, rfl, R5, ex⟩
  refine aU ?_
  replace E := E.ext ex
  have H5 := R5.bs
  refine bm 10 rfl func123 rfl (kQ i.frm _) ?_
  rintro e w6 ⟨A6, c6, rfl, R6, ex⟩
  refine aU ?_
  obtain ⟨E,H5⟩ := aY ex E H5
  have H6 := R6.bs
  have Vl := E.size
  refine bm 11 rfl func80 rfl (dh A5 A6 _ c5 4 c6 _ _ _ H5 Om H6 Om) ?_
  rintro e w7 ⟨A7, c7, rfl, R7, ex⟩
  replace E := E.ext ex
  refine zm [12] ?_
  refine hret rfl ?_
  exact ⟨A7, _, c7, rfl, (R7.lower Vl).congr rfl (by unfold oR; simp), by omega, E⟩
end
end
end Go.Proofs.YtgfafidlkldeaaaGreat
