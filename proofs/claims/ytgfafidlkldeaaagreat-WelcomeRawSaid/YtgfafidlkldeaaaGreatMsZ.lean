/- What the message layer's reader takes: contexts and messages; bytes as a whole. No conditions: contracts of the program's functions. -/
import Derived.Test.YtgfafidlkldeaaaGreatRowC
import Derived.Test.YtgfafidlkldeaaaGreatAu
import Derived.Test.YtgfafidlkldeaaaGreatMsB
set_option maxHeartbeats 4000000
set_option maxRecDepth 4000
namespace Go.Proofs.YtgfafidlkldeaaaGreat
section
open Go.RowKit
attribute [local irreducible] Y Ef WL WC WK WQ WM cE WN WF db
open Nd Wire
instance (c : Ctx) : Decidable c.Small := by unfold Ctx.Small; infer_instance
section
variable {cs ds : Array Value} {m : rK} {c : Ctx}
/-! The reference. -/
end
end
section
open Go.RowKit Tryz
attribute [local irreducible] Y Ef WL WC WK WQ WM cE WN WF db
open Nd Wire
theorem Jj {a b : Pack} : a = b ↔ a.init = b.init ∧ a.leaf = b.leaf ∧ a.sig = b.sig := by
 constructor
 ·rintro rfl; simp
 ·cases a; cases b; simp_all
instance (a b : Pack) : Decidable (a = b) := decidable_of_iff _ Jj.symm
theorem JE {a b : fF} : a = b ↔ a.kind = b.kind ∧ a.pack = b.pack ∧ a.leaf = b.leaf ∧ a.at_ = b.at_ := by
 constructor
 ·rintro rfl; simp
 ·cases a; cases b; simp_all
instance (a b : fF) : Decidable (a = b) := decidable_of_iff _ JE.symm
theorem Nu {a b : Lt} : a = b ↔ a.enc = b.enc ∧ a.box = b.box := by
 constructor
 ·rintro rfl; simp
 ·cases a; cases b; simp_all
instance : DecidableEq Lt := fun a b => decidable_of_iff _ Nu.symm
theorem L9 {a b : Md} : a = b ↔ a.box = b.box ∧ a.to = b.to := by
 constructor
 ·rintro rfl; simp
 ·cases a; cases b; simp_all
instance : DecidableEq Md := fun a b => decidable_of_iff _ L9.symm
theorem Kz {a b : mo} : a = b ↔ a.ref = b.ref ∧ a.prop = b.prop := by
 constructor
 ·rintro rfl; simp
 ·cases a; cases b; simp_all
instance : DecidableEq mo := fun a b => decidable_of_iff _ Kz.symm
theorem MO {a b : qi} : a = b ↔ a.items = b.items ∧ a.has = b.has ∧ a.way.leaf = b.way.leaf ∧ a.way.steps = b.way.steps := by
 constructor
 ·rintro rfl; simp
 ·obtain ⟨i, h, l, s⟩ := a
  obtain ⟨i', h', l', s'⟩ := b
  rintro ⟨h1, h2, h3, h4⟩
  simp only at h1 h2 h3 h4
  subst h1; subst h2; subst h3; subst h4; rfl
instance (a b : qi) : Decidable (a = b) := decidable_of_iff _ MO.symm
def Ctx.Fit (c : Ctx) : Prop := c.grp.length ≤ 1000000 ∧ c.tree.length ≤ 1000000 ∧ c.trans.length ≤ 1000000
def mQ (a b : rK) : Prop := a.group = b.group ∧ a.epoch = b.epoch ∧ a.frm = b.frm ∧ a.kind = b.kind ∧ a.prop = b.prop ∧ a.com = b.com
instance (a b : rK) : Decidable (mQ a b) := by unfold mQ; infer_instance
theorem Jq {a b : rK} : a = b ↔ mQ a b ∧ a.sig = b.sig ∧ a.tag = b.tag ∧ a.member = b.member := by
 unfold mQ
 constructor
 ·rintro rfl; simp
 ·cases a; cases b; simp_all
instance (a b : rK) : Decidable (a = b) := decidable_of_iff _ Jq.symm
theorem DG {a b : Ctx} : a = b ↔ a.grp = b.grp ∧ a.ep = b.ep ∧ a.tree = b.tree ∧ a.trans = b.trans := by
 constructor
 ·rintro rfl; simp
 ·cases a; cases b; simp_all
instance (a b : Ctx) : Decidable (a = b) := decidable_of_iff _ DG.symm
section
variable {cs ds : Array Value}
theorem rV {a b : Ctx} (w : World) (H : gZ w cs a) (K : gZ w ds b) (hf : a.Fit) (hg : b.Fit) :
  Ct 64 #[.agg cs, .agg ds] w fun e w' => e = .returned (.bool (decide (a = b))) ∧ Ext w w' := by
 obtain ⟨A1, A2, A3, n1, d1, n2, d2, n3, d3, rfl, H1, H2, H3⟩ := H
 obtain ⟨Vw, Vx, Vy, m1, e1, m2, e2, m3, e3, rfl, Q1, Q2, Q3⟩ := K
 have i1 := H1.1; have i2 := H2.1; have i3 := H3.1; have j1 := Q1.1; have j2 := Q2.1; have j3 := Q3.1
 obtain ⟨f1, f2, f3⟩ := hf
 obtain ⟨g1, g2, g3⟩ := hg
 have E := Ext.refl w
 refine ai 31 func64 rfl rfl rfl rfl ?_
 intro _ hret
 refine aU ?_
 intro w1 g1 (B1 : ao _ _ _ (FV A1 A2 A3 n1 d1 n2 d2 n3 d3 a.ep)) Vz ex
 replace E := E.ext ex
 refine aU ?_
 intro w2 g2 (B2 : ao _ _ _ (FV Vw Vx Vy m1 e1 m2 e2 m3 e3 b.ep)) VA ex
 obtain ⟨E,B1⟩ := ba ex E B1
 refine aU ?_
 refine aB func26 rfl (ki (Bs.ext H1 E) (Bs.ext Q1 E) Om Om) ?_
 rintro e _ ⟨rfl, ex⟩
 obtain ⟨E,B1,B2⟩ := bD ex E B1 B2
 refine au 1 ?_
 refine aS (aQ rfl) rfl (fun q0 => ?_) (fun q0 => ?_)
 ·refine au 6 ?_
  refine aS (aQ rfl) rfl (fun q1 => ?_) (fun q1 => ?_)
  ·refine aU ?_
   refine df 17 rfl rfl func26 rfl rfl rfl (ki (Bs.ext H2 E) (Bs.ext Q2 E) Om Om) rfl ?_
   rintro e _ ⟨rfl, ex⟩
   obtain ⟨E,B1,B2⟩ := bD ex E B1 B2
   refine au 2 ?_
   refine aS (aQ rfl) rfl (fun q2 => ?_) (fun q2 => ?_)
   ·refine aU ?_
    refine df 24 rfl rfl func26 rfl rfl rfl (ki (Bs.ext H3 E) (Bs.ext Q3 E) Om Om) rfl ?_
    rintro e _ ⟨rfl, ex⟩
    replace E := E.ext ex
    refine aU ?_
    refine hret rfl ?_
    exact ⟨cV ⟨fun h => DG.2 ⟨q0, by omega, q2, h⟩, fun h => by rw [h]⟩, E⟩
   ·refine aU ?_
    refine hret rfl ?_
    exact ⟨aI fun h => q2 (by rw [h]), E⟩
  ·refine aU ?_
   refine hret rfl ?_
   exact ⟨aI fun h => q1 (by rw [h]), E⟩
 ·refine aU ?_
  refine hret rfl ?_
  exact ⟨aI fun h => q0 (by rw [h]), E⟩
end
end
section
open Go.RowKit
namespace M20
open Wire Nd
/-! Each thing in its turn. -/
def dc (k n : Nat) (s : St) : St := match (dL k s).2 with
 | .ok r => if (dL k s).1 = n then .ok r else .error 3
 | .error c => .error c
def gk (s : St) : Bool × St := match (dL 1 s).2 with
 | .ok r => if 1 < (dL 1 s).1 then (false, .error 3) else (decide ((dL 1 s).1 = 1), .ok r)
 | .error c => (false, .error c)
/-! There. -/
end M20
end
section
open Go.RowKit
attribute [local irreducible] Y Ef WL WC WK WQ WM cE WN WF db
namespace M20
open Wire Nd
def tK (s : St) : Ctx × St :=
 let g := cT (dc 2 1 (dc 2 1 s))
 let e := dL 8 g.2
 let t := cT e.2
 let u := cT t.2
 (⟨g.1, e.1, t.1, u.1⟩, dc 1 0 u.2)
end M20
open M20
end
section
open Go.RowKit
namespace M20
open Wire Nd
/-! Back: what is read stands there. -/
theorem FM (t : St) : (∃ c, t = .error c) ∨ ∃ q, t = .ok q := by
 cases t with
 | error c => exact .inl ⟨c, rfl⟩
 | ok q => exact .inr ⟨q, rfl⟩
/-! Messages. -/
end M20
end
section
open Go.RowKit
def IB (w : World) (base : Nat) (e : TypeId) (sz : Nat) (A : Oa) (n c : Nat) (xs : List Value) : Prop := w.ownsRow base e sz (.slice A n c) n xs
section
variable {w w' : World} {base : Nat} {e : TypeId} {sz : Nat} {A : Oa} {n c m : Nat} {xs : List Value} {S : List Nat}
end
structure Gv (P : Program) (t e : TypeId) (sz bytes : Nat) : Prop where
 ht : P.underlying t = some (.slice e)
 pos : 0 < sz
 row : ∃ (i : TypeInfo) (z : Value), P.info? e = some i ∧ i.zero = some z ∧ i.size = sz ∧ i.bytes = bytes ∧ z.cells.size = sz
theorem Gv.of {P : Program} {t e : TypeId} {z : Value} {sz bytes : Nat} (ht : P.underlying t = some (.slice e)) (h : (P.info? e).map (fun i => (i.zero, i.size, i.bytes)) = some (some z, sz, bytes)) (hz : z.cells.size = sz) (hp : 0 < sz) : Gv P t e sz bytes := by
 obtain ⟨i, h1, h2, h3, h4⟩ := info_parts h
 exact ⟨ht, hp, i, z, h1, h2, h3, h4, hz⟩
section
variable {P : Program} {L : List (Nat × Value)} {w : World} {ty t e : TypeId} {x y : Operand}
end
section
variable {N : Nat} {S S' : List Nat} {Φ Ψ : World → Prop} {w w' : World} {o o' : Option Nat}
theorem Kp.rD (h : Kp N S Φ w) {M : Nat} (h1 : N ≤ M) (h2 : M ≤ w.heap.size) : Kp M S Φ w := ⟨h2, fun w2 hw => h.2 w2 fun k hk hn => hw k Om hn⟩
theorem Kp.and (h : Kp N S Φ w) (k : Kp N S Ψ w) : Kp N S (fun w => Φ w ∧ Ψ w) w := ⟨h.1, fun w2 hw => ⟨h.2 w2 hw, k.2 w2 hw⟩⟩
end
section
variable {α : Type} {R : World → Array Value → α → Prop} {sz : Nat} {e : TypeId} {base N : Nat} {S S' : List Nat} {w w' : World} {A : Oa} {n c : Nat} {zs : List α}
end
end
section
open Go.RowKit
open Nd Wire
structure jZ where
 ctx : Ctx
 tag : List UInt8
 frm : Int
 sig : List UInt8
structure mC where
 ref : List UInt8
 enc : List UInt8
 box : List UInt8
structure lN where
 guests : List mC
 info : List UInt8
def Ctx.zero : Ctx := ⟨[], 0, [], []⟩
def jZ.zero : jZ := ⟨Ctx.zero, [], 0, []⟩
def lN.zero : lN := ⟨[], []⟩
theorem EH {a b : jZ} : a = b ↔ a.ctx = b.ctx ∧ a.tag = b.tag ∧ a.frm = b.frm ∧ a.sig = b.sig := by
 constructor
 ·intro h; subst h; exact ⟨rfl, rfl, rfl, rfl⟩
 ·rintro ⟨_, _, _, _⟩; cases a; cases b; simp_all
theorem Mo {a b : mC} : a = b ↔ a.ref = b.ref ∧ a.enc = b.enc ∧ a.box = b.box := by
 constructor
 ·intro h; subst h; exact ⟨rfl, rfl, rfl⟩
 ·rintro ⟨_, _, _⟩; cases a; cases b; simp_all
theorem Na {a b : lN} : a = b ↔ a.guests = b.guests ∧ a.info = b.info := by
 constructor
 ·intro h; subst h; exact ⟨rfl, rfl⟩
 ·rintro ⟨_, _⟩; cases a; cases b; simp_all
instance (a b : jZ) : Decidable (a = b) := decidable_of_iff _ EH.symm
instance (a b : mC) : Decidable (a = b) := decidable_of_iff _ Mo.symm
instance : DecidableEq mC := fun a b => inferInstance
instance (a b : lN) : Decidable (a = b) := decidable_of_iff _ Na.symm
def Cx (g : Hd) (ep : Nat) (t u : Hd) : Array Value := #[.slice g.A g.n g.c, .int .u64 (ep : Int), .slice t.A t.n t.c, .slice u.A u.n u.c]
def po (g : Hd) (ep : Nat) (t u tg : Hd) (z : Int) (sg : Hd) : Array Value := #[.slice g.A g.n g.c, .int .u64 (ep : Int), .slice t.A t.n t.c, .slice u.A u.n u.c, .slice tg.A tg.n tg.c, .int .i64 z, .slice sg.A sg.n sg.c]
def fN (a b c : Hd) : Array Value := #[.slice a.A a.n a.c, .slice b.A b.n b.c, .slice c.A c.n c.c]
def EZ (B : Hd → List UInt8 → Prop) (cs : Array Value) (x : Ctx) : Prop := ∃ g t u, cs = Cx g x.ep t u ∧ x.ep < 18446744073709551616 ∧ B g x.grp ∧ B t x.tree ∧ B u x.trans
def j9 (B : Hd → List UInt8 → Prop) (cs : Array Value) (x : jZ) : Prop :=
 ∃ g t u tg sg, cs = po g x.ctx.ep t u tg x.frm sg ∧ x.ctx.ep < 18446744073709551616 ∧ (-9223372036854775808 ≤ x.frm ∧ x.frm ≤ 9223372036854775807) ∧ B g x.ctx.grp ∧ B t x.ctx.tree ∧ B u x.ctx.trans ∧ B tg x.tag ∧ B sg x.sig
def DO (B : Hd → List UInt8 → Prop) (cs : Array Value) (x : mC) : Prop := ∃ a b c, cs = fN a b c ∧ B a x.ref ∧ B b x.enc ∧ B c x.box
def ig (w : World) (cs : Array Value) (x : jZ) : Prop := j9 (lE w) cs x
def oJ (w : World) (cs : Array Value) (x : mC) : Prop := DO (lE w) cs x
def vf (w : World) (cs : Array Value) (x : lN) : Prop := ∃ h0 h1, cs = ka h0 h1 ∧ zh oJ 3 w h0.A h0.n x.guests ∧ lE w h1 x.info
section
variable {B B' : Hd → List UInt8 → Prop} {cs : Array Value} {w w' : World}
theorem j9.imp {x : jZ} (h : j9 B cs x) (f : ∀ h xs, B h xs → B' h xs) : j9 B' cs x := by
 obtain ⟨g, t, u, tg, sg, e, he, hz, a, b, c, d, k⟩ := h
 exact ⟨g, t, u, tg, sg, e, he, hz, f _ _ a, f _ _ b, f _ _ c, f _ _ d, f _ _ k⟩
theorem DO.imp {x : mC} (h : DO B cs x) (f : ∀ h xs, B h xs → B' h xs) : DO B' cs x := by
 obtain ⟨a, b, c, e, h1, h2, h3⟩ := h
 exact ⟨a, b, c, e, f _ _ h1, f _ _ h2, f _ _ h3⟩
theorem EZ.at {x : Ctx} (h : EZ (lE w) cs x) : gZ w cs x := by
 obtain ⟨g, t, u, e, he, a, b, c⟩ := h
 exact ⟨g.A, t.A, u.A, g.n, g.c, t.n, t.c, u.n, u.c, e, a, b, c⟩
theorem j9.ctx {x : jZ} (h : j9 B cs x) : EZ B ((cs.toList.drop 0).take 4).toArray x.ctx := by
 obtain ⟨g, t, u, tg, sg, rfl, he, hz, a, b, c, d, k⟩ := h
 exact ⟨g, t, u, rfl, he, a, b, c⟩
theorem ig.ext {x : jZ} (h : ig w cs x) (e : Ext w w') : ig w' cs x := j9.imp h fun _ _ b => Bs.ext b e
theorem oJ.ext {x : mC} (h : oJ w cs x) (e : Ext w w') : oJ w' cs x := DO.imp h fun _ _ b => Bs.ext b e
theorem vf.ext {x : lN} (h : vf w cs x) (e : Ext w w') : vf w' cs x := by
 obtain ⟨h0, h1, rfl, a, b⟩ := h
 exact ⟨h0, h1, rfl, a.ext e fun _ _ h => oJ.ext h e, Bs.ext b e⟩
end
def jk (i : jZ) : Prop := i.ctx.grp.length ≤ 64 ∧ i.ctx.tree.length = 32 ∧ i.ctx.trans.length = 32 ∧ i.tag.length = 32 ∧ (0 ≤ i.frm ∧ i.frm ≤ 65535) ∧ i.sig.length = 64
instance (i : jZ) : Decidable (jk i) := by unfold jk; infer_instance
def vt (j y : Lb) : Prop := j.length = 32 ∧ (y.length = 0 ∨ y.length = 32)
instance (j y : Lb) : Decidable (vt j y) := by unfold vt; infer_instance
def mC.Small (g : mC) : Prop := g.ref.length ≤ 100 ∧ g.enc.length ≤ 100 ∧ g.box.length ≤ 200
instance (g : mC) : Decidable g.Small := by unfold mC.Small; infer_instance
def lN.Small (x : lN) : Prop := x.guests.length < 70 ∧ (∀ g ∈ x.guests, g.Small) ∧ x.info.length ≤ 500
instance (x : lN) : Decidable x.Small := by unfold lN.Small; infer_instance
/-! Their bytes. -/
namespace M20
/-! How they are read. -/
def j8 (s : St) : jZ × St :=
 let c := tK s
 let t := cT (dc 1 0 c.2)
 let f := dL 4 t.2
 let g := cT f.2
 (⟨c.1, t.1, (f.1 : Int), g.1⟩, g.2)
def iN (s : St) : (List UInt8 × Bool × List UInt8) × St :=
 let j := cT s
 let h := gk j.2
 let y := if h.1 then cT h.2 else ([], h.2)
 ((j.1, h.1, y.1), y.2)
def cN {α : Type} (z : α) (p : α × St) (ok : Bool) : α × Nat := if eo p.2 ≠ 0 then (z, eo p.2) else if ok then (p.1, 0) else (z, 3)
def cW (b : Lb) : jZ × Nat := cN jZ.zero (j8 (.ok b)) (decide (jk (j8 (.ok b)).1))
def eW (p : List UInt8 × Bool × List UInt8) : Prop := vt p.1 p.2.2 ∧ (p.2.1 = true ↔ 0 < p.2.2.length)
instance (p : List UInt8 × Bool × List UInt8) : Decidable (eW p) := by unfold eW; infer_instance
def bK (b : Lb) : (List UInt8 × Bool × List UInt8) × Nat := cN ([], false, []) (iN (.ok b)) (decide (eW (iN (.ok b)).1))
theorem xd {α : Type} {z : α} {p : α × St} {ok : Bool} (h : (cN z p ok).2 ≠ 0) : (cN z p ok).1 = z := by
 unfold cN at h ⊢
 by_cases h1 : eo p.2 ≠ 0
 ·rw [if_pos h1]
 ·rw [if_neg h1] at h ⊢
  cases ok with
  | false => rw [if_neg (by decide)]
  | true => rw [if_pos rfl] at h; exact absurd rfl h
end M20
end
section
open Go.ChangeShapes Go.WideShapes Go.ChangeAt Go.RowKit
section
variable {H : Type} {enc : TypeId × Value → H} {W : World} {base : Nat} {spare : Nat → Bool} {held : Bool}
theorem yX {fuel : Nat} {cs : List Value} {x : DataW H × List MemPlace} (h : DataW.trod enc Tryz.prog W base spare held fuel 37 cs = some x) : ∃ p, oJ W cs.toArray p := by
 obtain ⟨Vw, hl, hfs⟩ := trod_struct Tryz.underlying37 h
 have hc : Tryz.prog.cellsOf 37 = 3 := by kernel_rfl
 rw [hc] at hl
 have c0 : Tryz.prog.cellsOf 23 = 1 := by kernel_rfl
 have c1 : Tryz.prog.cellsOf 35 = 2 := by kernel_rfl
 obtain ⟨_, t0⟩ := hfs 0 _ rfl
 obtain ⟨_, t1⟩ := hfs 1 _ rfl
 obtain ⟨A0, n0, k0, r0, e0, b0, _⟩ := gP t0
 obtain ⟨b, f0, f1, e1, v0, v1⟩ := xU t1
 have e : cs.drop 0 = _ := qK (o := 0) c0 e0
 rw [Ku (o := 1) c1 e1, yW hl] at e
 refine ⟨⟨r0, b.enc, b.box⟩, ⟨A0, n0, k0⟩, f0, f1, ?_, b0, v0, v1⟩
 rw [show cs = _ from e]
 rfl
end
end
section
open Go.RowKit Tryz
attribute [local irreducible] Y Ef WL WC WK WQ WM cE WN WF db WJ gO
open Wire Nd M20
structure LU (M : Nat) (V : List Nat) (w w' : World) : Prop where
 os : w'.os = w.os
 tape : w'.tape = w.tape
 output : w'.output = w.output
 size : w.heap.size ≤ w'.heap.size
 block : ∀ k, k < M → k ∉ V → w'.heap[k]? = w.heap[k]?
section
variable {M N k : Nat} {V S S' : List Nat} {w w' w'' : World} {Φ : World → Prop}
theorem aA.Nc (h : aA S w w') (hM : M ≤ w.heap.size) (hS : ∀ k ∈ S, k < M → k ∈ V := by first | (simp; done) | (simp; omega)) : LU M V w w' := ⟨h.os, h.tape, h.output, h.size, fun k hk hn => h.block k Om fun hm => hn (hS k hm hk)⟩
theorem _root_.Go.RowKit.Below.Nc (h : Ext w w') (hM : M ≤ w.heap.size) : LU M V w w' := (aA.of h []).Nc hM (by simp)
theorem aA.Mc (h : aA S w w') (l : LU M V w' Vw) (hM : w.heap.size ≤ M) (hV : ∀ k ∈ V, k ∈ S) : aA S w Vw :=
 ⟨l.os.trans h.os, l.tape.trans h.tape, l.output.trans h.output, Nat.le_trans h.size l.size, fun k hk hn => (l.block k Om fun hm => hn (hV k hm)).trans (h.block k hk hn)⟩
end
def Oh (gr e : Nat) : Array Value := #[.pointer (some ⟨gr, 0, none⟩), .int .u8 (e : Int)]
theorem Kq (gr e e' : Nat) {z : Int} (hz : z = (e' : Int)) : (Oh gr e).setIfInBounds 1 (.int .u8 z) = Oh gr e' := by subst hz; rfl
def pt (N : Nat) (S : List Nat) (w : World) (gi gr : Nat) (s : St) (e : Nat) : Prop := ao w gi 214 (Oh gr e) ∧ gi ∈ S ∧ gi ≠ gr ∧ Rs N S w gr s
def In (N : Nat) (S : List Nat) (w : World) (gi gr : Nat) : St → Prop
 | .ok xs => pt N S w gi gr (.ok xs) 0
 | .error c => c ≠ 0 ∧ c < 256 ∧ ∃ s, pt N S w gi gr s c
section
variable {N M gi gr k e : Nat} {S S' V : List Nat} {w w' : World} {s : St}
theorem pt.ext (h : pt N S w gi gr s e) (E : Ext w w') : pt N S w' gi gr s e := ⟨h.1.ext E, h.2.1, h.2.2.1, h.2.2.2.ext E⟩
theorem pt.grow (h : pt N S w gi gr s e) (E : Ext w w') (hk : w.heap.size ≤ k) : pt N (k :: S) w' gi gr s e := ⟨h.1.ext E, List.mem_cons_of_mem _ h.2.1, h.2.2.1, h.2.2.2.grow E hk⟩
theorem pt.bo (h : pt N S w gi gr s e) (C : aA S' w w') (hs : ∀ k ∈ S', k ∈ S := by first | (simp; done) | (simp; assumption)) (hg : gi ∉ S' := by first | (simp; done) | (simp; omega)) (hr : gr ∉ S' := by first | (simp; done) | (simp; omega)) : pt N S w' gi gr s e := ⟨h.1.bo C hg, h.2.1, h.2.2.1, h.2.2.2.bo C hs hr⟩
theorem pt.mono (h : pt N S w gi gr s e) (hs : ∀ k ∈ S', k ∈ S) (hg : gi ∈ S') (hr : gr ∈ S') : pt N S' w gi gr s e := ⟨h.1, hg, h.2.2.1, h.2.2.2.mono hs hr⟩
theorem In.cases (h : In N S w gi gr s) : ∃ t, pt N S w gi gr t (bU s) ∧ bU s < 256 ∧ ((∃ xs, s = .ok xs ∧ t = s) ∨ (bU s ≠ 0 ∧ s = .error (bU s))) := by
 cases s with
 | ok xs => exact ⟨_, h, by show 0 < 256; omega, .inl ⟨xs, rfl, rfl⟩⟩
 | error c => obtain ⟨h1, h2, t, h⟩ := h; exact ⟨t, h, h2, .inr ⟨h1, rfl⟩⟩
theorem In.gV (h : In N S w gi gr s) : ao w gi 214 (Oh gr (bU s)) := by obtain ⟨t, h, _⟩ := h.cases; exact h.1
theorem In.ne (h : In N S w gi gr s) : gi ≠ gr := by obtain ⟨t, h, _⟩ := h.cases; exact h.2.2.1
theorem In.OP (h : In N S w gi gr s) : gi < w.heap.size := h.gV.lt
theorem In.NU (h : In N S w gi gr s) : gr < w.heap.size := by obtain ⟨t, h, _⟩ := h.cases; exact h.2.2.2.lt
theorem In.JN (h : In N S w gi gr s) : gi ∈ S := by obtain ⟨t, h, _⟩ := h.cases; exact h.2.1
theorem In.Pt (h : In N S w gi gr s) : gr ∈ S := by obtain ⟨t, h, _⟩ := h.cases; exact h.2.2.2.mem
theorem In.ext (h : In N S w gi gr s) (E : Ext w w') : In N S w' gi gr s := by
 cases s with
 | ok xs => exact pt.ext h E
 | error c => obtain ⟨h1, h2, t, h⟩ := h; exact ⟨h1, h2, t, h.ext E⟩
theorem In.grow (h : In N S w gi gr s) (E : Ext w w') (hk : w.heap.size ≤ k) : In N (k :: S) w' gi gr s := by
 cases s with
 | ok xs => exact pt.grow h E hk
 | error c => obtain ⟨h1, h2, t, h⟩ := h; exact ⟨h1, h2, t, h.grow E hk⟩
theorem In.bo (h : In N S w gi gr s) (C : aA S' w w') (hs : ∀ k ∈ S', k ∈ S := by first | (simp; done) | (simp; assumption)) (hg : gi ∉ S' := by first | (simp; done) | (simp; omega)) (hr : gr ∉ S' := by first | (simp; done) | (simp; omega)) : In N S w' gi gr s := by
 cases s with
 | ok xs => exact pt.bo h C hs hg hr
 | error c => obtain ⟨h1, h2, t, h⟩ := h; exact ⟨h1, h2, t, h.bo C hs hg hr⟩
theorem In.mono (h : In N S w gi gr s) (hs : ∀ k ∈ S', k ∈ S) (hg : gi ∈ S') (hr : gr ∈ S') : In N S' w gi gr s := by
 cases s with
 | ok xs => exact pt.mono h hs hg hr
 | error c => obtain ⟨h1, h2, t, h⟩ := h; exact ⟨h1, h2, t, h.mono hs hg hr⟩
end
/-! Wire's flag. -/
theorem Kx {s : St} {xs : Lb} (h : s = .ok xs ∨ (bU s ≠ 0 ∧ s = .error (bU s))) (he : bU s < 256) (hn : (tk xs (bU s) 1).2.1 = false) :
  ∃ c, gk s = (false, .error c) ∧ (tk xs (bU s) 1).2.2.2 = c ∧ c ≠ 0 ∧ c < 256 := by
 rcases h with rfl | ⟨h0, h1⟩
 ·have e : tk xs (bU (.ok xs)) 1 = tk xs 0 1 := rfl
  rw [e, qH xs 1 (z := 1) rfl] at hn ⊢
  cases xs with
  | nil => exact ⟨4, rfl, rfl, by omega, by omega⟩
  | cons b r => rw [if_neg (by simp)] at hn; cases hn
 ·generalize bU s = c at *
  subst h1
  exact ⟨c, rfl, by unfold tk; rw [if_pos h0], h0, he⟩
theorem qX (b : UInt8) (r : Lb) : gk (.ok (b :: r)) = if 1 < b.toNat then (false, .error 3) else (decide (b.toNat = 1), .ok r) := by
 unfold gk; rw [Cb]
theorem CY {N : Nat} {S : List Nat} {g : Nat} {s : St} (w : World) (H0 : Rs N S w g s) :
  Ct 171 #[.pointer (some ⟨g, 0, none⟩)] w fun e w' => e = .returned (.bool (gk s).1) ∧ Rs N S w' g (gk s).2 ∧ aA [g] w w' := by
 obtain ⟨xs, H, he, hs⟩ := H0.rd
 have F := aA.refl [g] w
 refine ai 22 func171 rfl rfl rfl rfl ?_
 intro _ hret
 refine aU ?_
 refine aB func223 rfl (iS 1 _ he H) ?_
 rintro e w1 ⟨A1, n1, _, rfl, _, K1, H1, ex⟩
 replace F := F.bo ex
 refine aU ?_
 refine bA rfl (fun Vw => ?_) (fun Vw => ?_)
 ·refine aU ?_
  refine hret rfl ?_
  obtain ⟨c, e1, e2, h0, h9⟩ := Kx hs he (by simpa using Vw)
  rw [e2] at H1
  rw [e1]
  exact ⟨rfl, ⟨h0, h9, _, H1⟩, F⟩
 ·obtain ⟨b, r, rfl, ht⟩ := Aw hs (by simpa using Vw)
  rw [ht] at K1 H1
  replace K1 : Kp N S (fun w => Bs w A1 n1 [b]) w1 := K1
  replace H1 : Rd N S w1 g r 0 := H1
  have Vy : n1 = 1 := K1.out.1.symm
  subst Vy
  obtain ⟨b1, o1, rfl, _, hcell⟩ := K1.out.get (k := 0) Om
  refine au 6 ?_
  refine ak (aw rfl rfl Tn.u Kr (j := 0) rfl Om) ?_
  refine ak (af rfl Tn.u rfl hcell) ?_
  refine aU ?_
  refine al rfl (fun Vx => ?_) (fun Vx => ?_)
  ·refine aU ?_
   refine aB func224 rfl (iU 3 3 rfl _ H1) ?_
   rintro e _ ⟨rfl, H2, ex⟩
   replace F := F.bo ex
   refine aU ?_
   refine hret rfl ?_
   rw [qX, if_pos (by have h : (1 : Int) < ((b.toNat : Nat) : Int) := Vx; omega)]
   exact ⟨rfl, ⟨by omega, by omega, _, H2⟩, F⟩
  ·refine au 5 ?_
   refine ak (aw rfl rfl Tn.u Kr (j := 0) rfl Om) ?_
   refine ak (af rfl Tn.u rfl hcell) ?_
   refine aU ?_
   refine hret rfl ?_
   have hb : ¬ 1 < b.toNat := by have h : ¬ (1 : Int) < ((b.toNat : Nat) : Int) := Vx; omega
   rw [qX, if_neg hb]
   exact ⟨by show _ = Ending.returned (.bool (decide (b.toNat = 1))); congr 2; exact decide_eq_decide.2 So, H1, F⟩
/-! Notes. -/
def AW (z : Nat) : St → St
 | .ok xs => if z = 0 then .ok xs else .error z
 | .error c => .error c
section
variable {N gi gr e : Nat} {S : List Nat} {s : St}
theorem wQ (z : Nat) (zi : Int) (hz : zi = (z : Int)) (w : World) (H : pt N S w gi gr s e) :
  Ct 169 #[.pointer (some ⟨gi, 0, none⟩), .int .u8 zi] w fun r w' => r = .returned (.tuple #[]) ∧ pt N S w' gi gr s (if e = 0 then z else e) ∧ aA [gi] w w' := by
 have H0 := H
 obtain ⟨B, hm, hne, R⟩ := H
 refine fk 13 func169 rfl rfl rfl rfl ?_
 intro _ hret
 refine aU ?_
 refine al rfl (fun Vw => ?_) (fun Vw => ?_)
 ·refine au 5 ?_
  refine ag (av rfl rfl rfl Kr B (by show 1 < 2; omega)) rfl ?_
  rintro _ _ ⟨rfl, D, cg⟩
  have ex := aA.one cg
  rw [Kq gr e z hz] at D
  refine aU ?_
  refine hret (.inr rfl) ?_
  rw [if_pos Om]
  exact ⟨rfl, ⟨D, hm, hne, R.bo ex (by simpa using hm)⟩, ex⟩
 ·refine aU ?_
  refine hret (.inr rfl) ?_
  rw [if_neg Om]
  exact ⟨rfl, H0, aA.refl _ _⟩
theorem pt.code {w : World} (h : pt N S w gi gr s (bU s)) : In N S w gi gr s := by
 cases s with
 | ok xs => exact h
 | error c => exact ⟨h.2.2.2.1, h.2.2.2.2.1, _, h⟩
theorem lv (z : Nat) (zi : Int) (hz : zi = (z : Int)) (w : World) (H : pt N S w gi gr s 0) :
  Ct 169 #[.pointer (some ⟨gi, 0, none⟩), .int .u8 zi] w fun r w' => r = .returned (.tuple #[]) ∧ pt N S w' gi gr s z ∧ aA [gi] w w' :=
 (wQ z zi hz w H).mono fun _ _ h => by rw [if_pos rfl] at h; exact h
theorem AO (z : Nat) (zi : Int) (hz : zi = (z : Int)) (h8 : z < 256) (w : World) (H : In N S w gi gr s) :
    Ct 169 #[.pointer (some ⟨gi, 0, none⟩), .int .u8 zi] w fun r w' => r = .returned (.tuple #[]) ∧ In N S w' gi gr (AW z s) ∧ aA [gi] w w' := by
  cases s with
  | ok xs =>
    refine (lv z zi hz w H).mono fun _ _ ⟨h1, h2, h3⟩ => ⟨h1, ?_, h3⟩
    show In N S _ gi gr (if z = 0 then .ok xs else .error z)
    by_cases h : z = 0
    · rw [if_pos h]; subst h; exact h2
    · rw [if_neg h]; exact ⟨h, h8, _, h2⟩
  | error c =>
    obtain ⟨k1, k2, t, H⟩ := H
    refine (wQ z zi hz w H).mono fun _ _ ⟨h1, h2, h3⟩ => ⟨h1, ?_, h3⟩
    rw [if_neg k1] at h2
    exact ⟨k1, k2, t, h2⟩
theorem In.LL {w : World} (h : In N S w gi gr s) (e : bU s = 0) : ∃ xs, s = .ok xs := by
 cases s with
 | ok xs => exact ⟨xs, rfl⟩
 | error c => exact absurd e h.1
theorem In.DL {w : World} (h : In N S w gi gr s) (e : bU s ≠ 0) : ∃ c, s = .error c := by
 cases s with
 | ok xs => exact absurd rfl e
 | error c => exact ⟨c, rfl⟩
theorem pT (k : Nat) (z : Int) (hz : z = (k : Int)) (w : World) (hk : k = 1 ∨ k = 2 ∨ k = 4 ∨ k = 8) (H : In N S w gi gr s) :
  Ct 109 #[.pointer (some ⟨gi, 0, none⟩), .int .i64 z] w fun e w' => e = .returned (.int .u64 (((dL k s).1 : Nat) : Int)) ∧ In N S w' gi gr (dL k s).2 ∧ aA [gr, gi] w w' := by
 have F := aA.refl [gr, gi] w
 have hne := H.ne
 have hmi := H.JN
 refine ai 25 func109 rfl rfl rfl rfl ?_
 intro _ hret
 refine au 11 ?_
 refine ak (af rfl Tn.u rfl (H.gV.get (i := 1) rfl)) ?_
 refine aU ?_
 refine al rfl (fun Vw => ?_) (fun Vw => ?_)
 ·refine aU ?_
  refine hret rfl ?_
  obtain ⟨c, rfl⟩ := H.DL Om
  exact ⟨rfl, H, F⟩
 ·obtain ⟨xs, rfl⟩ := H.LL Om
  have B := H.1
  refine aU ?_
  refine aB func182 rfl (Hu k z hz _ hk H.2.2.2) ?_
  rintro e _ ⟨rfl, R1, ex⟩
  obtain ⟨F,B⟩ := gu ex F B
  refine aU ?_
  refine aB func170 rfl (nk _ R1) ?_
  rintro e _ ⟨rfl, ex⟩
  obtain ⟨F,B,R1⟩ := bD ex F B R1
  refine aU ?_
  refine aB func169 rfl (lv _ _ rfl _ ⟨B, hmi, hne, R1⟩) ?_
  rintro e _ ⟨rfl, I3, ex⟩
  replace F := F.bo ex
  refine aU ?_
  refine hret rfl ?_
  exact ⟨rfl, I3.code, F⟩
theorem il (w : World) (H : In N S w gi gr s) :
  Ct 93 #[.pointer (some ⟨gi, 0, none⟩)] w fun e w' => ∃ A n c, e = .returned (.slice A n c) ∧ n ≤ c ∧ Fb w.heap.size w' A n (cT s).1 ∧ In N S w' gi gr (cT s).2 ∧ aA [gr, gi] w w' := by
 have F := aA.refl [gr, gi] w
 have hne := H.ne
 have hmi := H.JN
 have hli := H.OP
 have hlr := H.NU
 refine ai 22 func93 rfl rfl rfl rfl ?_
 intro _ hret
 refine au 11 ?_
 refine ak (af rfl Tn.u rfl (H.gV.get (i := 1) rfl)) ?_
 refine aU ?_
 refine al rfl (fun Vx => ?_) (fun Vx => ?_)
 ·refine aU ?_
  refine hret rfl ?_
  obtain ⟨c, rfl⟩ := H.DL Om
  exact ⟨none, 0, 0, rfl, Nat.le_refl _, Fb.nil _ _ _, H, F⟩
 ·obtain ⟨xs, rfl⟩ := H.LL Om
  have B := H.1
  refine aU ?_
  refine aB func168 rfl (Fx _ H.2.2.2) ?_
  rintro e _ ⟨A1, n1, c1, rfl, Vw, V1, R1, ex⟩
  replace F := F.bo ex
  replace B := B.bo ex; have J1 := V1.kk (S := [gr, gi]) So
  refine aU ?_
  refine aB func170 rfl (nk _ R1) ?_
  rintro e _ ⟨rfl, ex⟩
  obtain ⟨F,B,R1,J1⟩ := bN ex F B R1 J1
  refine aU ?_
  refine aB func169 rfl (lv _ _ rfl _ ⟨B, hmi, hne, R1⟩) ?_
  rintro e _ ⟨rfl, I3, ex⟩
  obtain ⟨F,J1⟩ := gu ex F J1
  refine aU ?_
  refine hret rfl ?_
  exact ⟨A1, n1, c1, rfl, Vw, J1.out, I3.code, F⟩
theorem CF (w : World) (H : In N S w gi gr s) :
  Ct 94 #[.pointer (some ⟨gi, 0, none⟩)] w fun e w' => e = .returned (.bool (gk s).1) ∧ In N S w' gi gr (gk s).2 ∧ aA [gr, gi] w w' := by
 have F := aA.refl [gr, gi] w
 have hne := H.ne
 have hmi := H.JN
 refine ai 22 func94 rfl rfl rfl rfl ?_
 intro _ hret
 refine au 11 ?_
 refine ak (af rfl Tn.u rfl (H.gV.get (i := 1) rfl)) ?_
 refine aU ?_
 refine al rfl (fun Vw => ?_) (fun Vw => ?_)
 ·refine aU ?_
  refine hret rfl ?_
  obtain ⟨c, rfl⟩ := H.DL Om
  exact ⟨rfl, H, F⟩
 ·obtain ⟨xs, rfl⟩ := H.LL Om
  have B := H.1
  refine aU ?_
  refine aB func171 rfl (CY _ H.2.2.2) ?_
  rintro e _ ⟨rfl, R1, ex⟩
  obtain ⟨F,B⟩ := gu ex F B
  refine aU ?_
  refine aB func170 rfl (nk _ R1) ?_
  rintro e _ ⟨rfl, ex⟩
  obtain ⟨F,B,R1⟩ := bD ex F B R1
  refine aU ?_
  refine aB func169 rfl (lv _ _ rfl _ ⟨B, hmi, hne, R1⟩) ?_
  rintro e _ ⟨rfl, I3, ex⟩
  replace F := F.bo ex
  refine aU ?_
  refine hret rfl ?_
  exact ⟨rfl, I3.code, F⟩
theorem AG {k n : Nat} (h : (dL k s).1 ≠ n) : dc k n s = AW 3 (dL k s).2 := by
 unfold dc
 cases (dL k s).2 with
 | ok r => exact if_neg h
 | error c => rfl
theorem Ax {k n : Nat} (h : (dL k s).1 = n) : dc k n s = (dL k s).2 := by
 unfold dc
 cases (dL k s).2 with
 | ok r => exact if_pos h
 | error c => rfl
theorem lM (k n : Nat) (z u : Int) (hz : z = (k : Int)) (hu : u = (n : Int)) (w : World) (hk : k = 1 ∨ k = 2 ∨ k = 4 ∨ k = 8) (H : In N S w gi gr s) :
  Ct 108 #[.pointer (some ⟨gi, 0, none⟩), .int .i64 z, .int .u64 u] w fun e w' => e = .returned (.tuple #[]) ∧ In N S w' gi gr (dc k n s) ∧ aA [gr, gi] w w' := by
 have F := aA.refl [gr, gi] w
 refine fk 13 func108 rfl rfl rfl rfl ?_
 intro _ hret
 refine aU ?_
 refine aB func109 rfl (pT k z hz _ hk H) ?_
 rintro e _ ⟨rfl, H1, ex⟩
 replace F := F.bo ex
 refine aU ?_
 refine al rfl (fun Vw => ?_) (fun Vw => ?_)
 ·refine aU ?_
  refine aB func169 rfl (AO 3 3 rfl Om _ H1) ?_
  rintro e _ ⟨rfl, H2, ex⟩
  replace F := F.bo ex
  refine aU ?_
  refine hret (.inr rfl) ?_
  rw [AG Om]
  exact ⟨rfl, H2, F⟩
 ·refine aU ?_
  refine hret (.inr rfl) ?_
  rw [Ax Om]
  exact ⟨rfl, H1, F⟩
end
/-! What is in a vector, one behind the other. -/
section
variable {N gi gr : Nat} {S V : List Nat} {s : St}
end
end
section
open Go.RowKit
attribute [local irreducible] Y Ef WL WC WK WQ WM cE WN WF db WJ gO
open Wire Nd M20
/-! In memory from a block on. -/
def PE (base : Nat) (w : World) (cs : Array Value) (x : Ctx) : Prop := EZ (fun h xs => Fb base w h.A h.n xs) cs x
def jn (base : Nat) (w : World) (cs : Array Value) (x : jZ) : Prop := j9 (fun h xs => Fb base w h.A h.n xs) cs x
section
variable {base b : Nat} {w : World} {cs : Array Value} {S : List Nat}
theorem jn.mono {x : jZ} (h : jn base w cs x) (hb : b ≤ base) : jn b w cs x := j9.imp h fun _ _ k => k.mono hb
theorem jn.at {x : jZ} (h : jn base w cs x) : ig w cs x := j9.imp h fun _ _ k => k.1
theorem jn.kk {x : jZ} (h : jn base w cs x) (hS : ∀ g ∈ S, g < base) : Kp w.heap.size S (fun w => jn base w cs x) w := ⟨Nat.le_refl _, fun w2 hw => j9.imp h fun _ _ k => (k.kk hS).2 w2 hw⟩
end
section
variable {N gi gr : Nat} {S : List Nat} {s : St}
end
end
section
open Go.RowKit
attribute [local irreducible] Y Ef WL WC WK WQ WM cE WN WF db WJ gO
open Wire Nd M20
section
variable {α : Type} {gc : Nat} {tc e : TypeId} {cf : Hd → Array Value} {R : World → Array Value → α → Prop} {sz gi N3 x gx : Nat} {zs : List α} {w w' : World}
end
section
variable {N3 M x gx gs gi base : Nat} {T : List Nat} {hd : Hd} {st : St}
end
theorem P8 {P : Nat → Prop} {a b : Nat} {L : List Nat} (ha : P a) (hb : P b) (hL : ∀ k ∈ L, P k) : ∀ k ∈ a :: b :: L, P k := fun k hk => by
 simp only [List.mem_cons] at hk
 rcases hk with rfl | rfl | hk
 ·exact ha
 ·exact hb
 ·exact hL k hk
section
variable {N gi gr : Nat} {S : List Nat} {s : St}
end
theorem pC (k n : Nat) (s : St) : pe (dc k n s) ≤ pe s := by
 have h := yP (s := s) k
 unfold dc
 rcases FM (dL k s).2 with ⟨c, hc⟩ | ⟨q, hq⟩
 ·rw [hc]; exact Nat.zero_le _
 ·rw [hq] at h ⊢
  dsimp only
  split
  ·exact h
  ·exact Nat.zero_le _
section
variable {N3 M x gx gc gi base : Nat} {T : List Nat} {st : St}
end
section
variable {N gi gr : Nat} {S : List Nat} {s : St}
end
end
section
open Go.RowKit Tryz
attribute [local irreducible] Y Ef WL WC WK WQ WM cE WN WF db WJ gO
open Wire Nd M20
section
variable {N gi gr : Nat} {S : List Nat} {s : St}
theorem DV (w : World) (H0 : In N S w gi gr s) :
  Ct 107 #[.pointer (some ⟨gi, 0, none⟩)] w fun e w' => ∃ cs, e = .returned (.agg cs) ∧ PE w.heap.size w' cs (tK s).1 ∧ In N S w' gi gr (tK s).2 ∧ aA [gr, gi] w w' := by
 have F := aA.refl [gr, gi] w
 have hmi := H0.JN
 have hmr := H0.Pt
 have hli := H0.OP
 have hlr := H0.NU
 have H := H0
 obtain ⟨g, hg⟩ : ∃ g, g = cT (dc 2 1 (dc 2 1 s)) := ⟨_, rfl⟩
 obtain ⟨e, he⟩ : ∃ e, e = dL 8 g.2 := ⟨_, rfl⟩
 have hX : tK s = (⟨g.1, e.1, (cT e.2).1, (cT (cT e.2).2).1⟩, dc 1 0 (cT (cT e.2).2).2) := by rw [he, hg]; rfl
 have VA : e.1 < 18446744073709551616 := by rw [he]; exact pM 8 _
 refine aH (s := 4) 20 func107 rfl rfl rfl underlying40 rfl Kr rfl ?_
 intro _ hret
 refine aU ?_
 intro _ Vy B2 Vx ex
 replace F := F.grow ex Vx
 replace H := H.grow ex Vx
 refine aU ?_
 refine aB func108 rfl (lM 2 1 2 1 rfl rfl _ Om H) ?_
 rintro e _ ⟨rfl, H1, ex⟩
 obtain ⟨F,B2⟩ := gu ex F B2
 refine aU ?_
 refine aB func108 rfl (lM 2 1 2 1 rfl rfl _ Om H1) ?_
 rintro e _ ⟨rfl, H2, ex⟩
 obtain ⟨F,B2⟩ := gu ex F B2
 refine aU ?_
 have q2 := B2.lt; have q4 := F.size
 refine aB func93 rfl (il _ H2) ?_
 rintro e _ ⟨A1, n1, c1, rfl, _, V1, H3, ex⟩
 obtain ⟨F,B2⟩ := gu ex F B2
 rw [← hg] at H3 V1
 have J1 := V1.kk (S := [Vy, gr, gi]) So
 refine aU ?_
 refine aB func109 rfl (pT 8 8 rfl _ Om H3) ?_
 rintro e _ ⟨rfl, H4, ex⟩
 refine au 1 ?_
 rw [← he] at H4 ⊢
 obtain ⟨F,B2,J1⟩ := me ex F B2 J1
 refine aU ?_
 have r2 := B2.lt; have r4 := F.size
 refine aB func93 rfl (il _ H4) ?_
 rintro e _ ⟨A2, n2, c2, rfl, _, V2, H5, ex⟩
 obtain ⟨F,B2,J1⟩ := me ex F B2 J1
 have J2 := V2.kk (S := [Vy, gr, gi]) So
 refine aU ?_
 have u2 := B2.lt; have u4 := F.size
 refine aB func93 rfl (il _ H5) ?_
 rintro e _ ⟨A3, n3, c3, rfl, _, V3, H6, ex⟩
 refine au 1 ?_
 obtain ⟨F,B2,J1,J2⟩ := dj ex F B2 J1 J2
 have J3 := V3.kk (S := [Vy, gr, gi]) So
 refine ak (aq rfl (cells := Cx ⟨A1, n1, c1⟩ e.1 ⟨A2, n2, c2⟩ ⟨A3, n3, c3⟩) Kr) ?_
 refine aU ?_
 intro _ VB B3 Vw ex
 have Vz : Vy < VB := Nat.lt_of_lt_of_le B2.lt Vw
 replace F := F.grow ex Vw
 replace B2 := B2.grow ex Vw
 replace J1 := J1.grow ex Vw
 replace J2 := J2.grow ex Vw
 replace H6 := H6.grow ex Vw
 replace J3 := J3.grow ex Vw
 refine aU ?_
 intro _ D cg
 have ex := aA.one cg
 clear cg
 obtain ⟨F,B2,J1,J2,H6,J3⟩ := tG ex F B2 J1 J2 H6 J3
 replace B3 := D; clear D
 replace B3 := B3.congr (cs' := Cx ⟨A1, n1, c1⟩ e.1 ⟨A2, n2, c2⟩ ⟨A3, n3, c3⟩) rfl
 refine aU ?_
 refine aB func108 rfl (lM 1 0 1 0 rfl rfl _ Om H6) ?_
 rintro e _ ⟨rfl, H7, ex⟩
 obtain ⟨F,B2,J1,J2,J3,B3⟩ := tG ex F B2 J1 J2 J3 B3
 refine aU ?_
 intro _ D cg
 have ex := aA.one cg
 clear cg
 obtain ⟨F,J1,J2,J3,H7⟩ := jI ex F J1 J2 J3 H7
 replace B2 := D; clear D
 replace B2 := B2.congr (cs' := Cx ⟨A1, n1, c1⟩ e.1 ⟨A2, n2, c2⟩ ⟨A3, n3, c3⟩) rfl
 refine aU ?_
 refine hret rfl B2 rfl ?_
 rw [hX]; exact ⟨_, rfl, ⟨_, _, _, rfl, VA, J1.out.mono Om, J2.out.mono Om, J3.out.mono Om⟩, H7.mono (fun k hk => by simp [hk]) hmi hmr, (F.drop Om).drop Om⟩
end
theorem KW {N g : Nat} {S : List Nat} {w : World} {t : St} (h : Rs N S w g t) : eo t < 256 := by
  cases t with
  | error c => exact h.2.1
  | ok xs =>
    cases xs with
    | nil => show 0 < 256; omega
    | cons x xs => show 5 < 256; omega
theorem GF {t t' : St} (h : (∃ xs, t = .ok xs ∧ t' = t) ∨ (bU t ≠ 0 ∧ t = .error (bU t))) : bU (AW (eo t') t) = eo t := by
 rcases h with ⟨xs, rfl, rfl⟩ | ⟨h0, h1⟩
 ·cases xs with
  | nil => rfl
  | cons x xs => rfl
 ·generalize bU t = c at *
  subst h1; rfl
theorem wK {A : Oa} {n c N : Nat} {b : Lb} {V : List Nat} {t : St} {okv : Bool} {ft fo : FuncId} {us vs : List Value} {Vw Vx : Func} {VA VB : Code} {Ψ : Nat → World → Prop} (w : World) (K : Kp N V (fun w => Bs w A n b) w) (hc : n ≤ c) (hn : n ≤ 1048576) (hV : ∀ k ∈ V, k < w.heap.size)
  (VC : Tryz.prog.funcs[ft]? = some Vw) (VD : Vw.body = some VA) (VE : (Vw.name == "runtime.NumGoroutine") = false) (VF : Tryz.prog.funcs[fo]? = some Vx) (VG : Vx.body = some VB) (VH : (Vx.name == "runtime.NumGoroutine") = false)
  (hT : ∀ (w1 : World) (gi gr : Nat), Ext w w1 → w.heap.size ≤ gi → w.heap.size ≤ gr → In N (gi :: gr :: V) w1 gi gr (.ok b) → (∀ k ∈ gi :: gr :: V, k < w1.heap.size) →
   Ct ft (.pointer (some ⟨gi, 0, none⟩) :: us).toArray w1 fun e w2 => e = .returned (.tuple #[]) ∧ In N (gi :: gr :: V) w2 gi gr t ∧ Ψ gi w2 ∧ LU w.heap.size V w1 w2)
  (hΨ : ∀ gi w1 w2, w.heap.size ≤ gi → Ψ gi w1 → aA [gi] w1 w2 → Ψ gi w2)
  (hO : ∀ gi w1, Ψ gi w1 → eo t = 0 → Ct fo vs.toArray w1 fun e w2 => e = .returned (.bool okv) ∧ Ext w1 w2) :
  Ct 95 #[.slice A n c, .func (.func ft) #[] us.toArray, .func (.func fo) #[] vs.toArray] w fun e w' => e = .returned (.int .u8 (((if eo t ≠ 0 then eo t else if okv then 0 else 3 : Nat) : Nat) : Int)) ∧ (∃ gi, w.heap.size ≤ gi ∧ Ψ gi w') ∧ eo t < 256 ∧ aA V w w' := by
 have E := Ext.refl w
 have hbl := K.out.1
 refine ai 42 func95 rfl rfl rfl rfl ?_
 intro _ hret
 refine aU ?_
 refine aB func172 rfl (rS A n c b _ hc K) ?_
 rintro e w1 ⟨gr, rfl, _, R, ex⟩
 replace E := E.ext ex
 refine au 1 ?_
 have hlr := R.lt
 refine ak (aq rfl (cells := Oh gr 0) Kr) ?_
 have R0 := R
 refine aU ?_
 intro w2 gi BI hgi ex
 replace E := E.ext ex
 replace R0 := R0.grow ex hgi
 refine aU ?_
 have H : In N (gi :: gr :: V) w2 gi gr (.ok b) := ⟨BI, List.mem_cons_self, by omega, R0⟩
 have z2 := BI.lt
 have z3 := E.size
 have z4 := H.NU
 refine ag (kE (Φ := fun v w' => v = .tuple #[] ∧ In N (gi :: gr :: V) w' gi gr t ∧ Ψ gi w' ∧ LU w.heap.size V w2 w') (xs := [.tmp 16]) (vs := [.pointer (some ⟨gi, 0, none⟩)]) rfl VC VD VE rfl (hT w2 gi gr E Om Om H (P8 z2 z4 fun k hk => Nat.lt_of_lt_of_le (hV k hk) z3)) (fun _ _ ⟨h1, h2, h3, h4⟩ => ⟨_, h1, rfl, h2, h3, h4⟩)) rfl ?_
 rintro _ _ ⟨rfl, H3, P3, L3⟩
 have F := (aA.of E V).Mc L3 (Nat.le_refl _) (fun k hk => hk)
 refine au 8 ?_
 refine ak (af rfl Tn.u rfl (H3.gV.get (i := 0) rfl)) ?_
 obtain ⟨t', I3, h8, hcs⟩ := H3.cases
 have Vz := KW I3.2.2.2
 have hne := GF hcs
 have het : eo t < 256 := by rcases hcs with ⟨xs, rfl, rfl⟩ | ⟨h, e⟩; exact Vz; rw [e]; exact h8
 refine aB func173 rfl (EY _ I3.2.2.2) ?_
 rintro e _ ⟨rfl, ex⟩
 refine aU ?_
 obtain ⟨F,H3⟩ := ba ex F H3
 replace P3 := hΨ gi _ _ Om P3 (aA.of ex [gi])
 refine aB func169 rfl (AO (eo t') _ rfl Vz _ H3) ?_
 rintro e w5 ⟨rfl, H5, ex⟩
 have z6 := F.size; replace P3 := hΨ gi _ _ Om P3 ex; replace F := F.Mc (aA.Nc (M := w.heap.size) (V := []) ex Om) (Nat.le_refl _) (by simp)
 obtain ⟨q, hq⟩ : ∃ q, q = AW (eo t') t := ⟨_, rfl⟩; rw [← hq] at H5 hne; have BQ := H5.gV
 refine au 10 ?_
 refine aS (cL rfl rfl) rfl (fun h0 => ?_) (fun h0 => ?_)
 ·refine aU ?_
  refine GD 30 rfl rfl (kE (Φ := fun v w' => v = .bool okv ∧ Ext w5 w') (xs := []) (vs := []) rfl VF VG VH rfl (hO gi _ P3 Om) (fun _ _ ⟨h1, h2⟩ => ⟨_, h1, rfl, h2⟩)) rfl ?_
  rintro _ _ ⟨rfl, ex⟩
  obtain ⟨F,BQ⟩ := ba ex F BQ
  replace P3 := hΨ gi _ _ Om P3 (aA.of ex [gi])
  refine aU ?_
  refine bA rfl (fun Vy => ?_) (fun Vy => ?_)
  ·refine au 4 ?_
   refine ag (av rfl rfl rfl Kr BQ (by show 1 < 2; omega)) rfl ?_
   rintro _ _ ⟨rfl, _, cg⟩
   have ex := aA.one cg
   have z7 := F.size; replace P3 := hΨ gi _ _ Om P3 ex; replace F := F.Mc (aA.Nc (M := w.heap.size) (V := []) ex Om) (Nat.le_refl _) (by simp)
   refine aU ?_
   refine hret rfl ?_
   rw [if_neg Om, if_neg (by simpa using Vy)]
   exact ⟨rfl, ⟨gi, by omega, P3⟩, het, F⟩
  ·refine aU ?_
   refine hret rfl ?_
   rw [if_neg Om, if_pos (by simpa using Vy), show bU q = 0 by omega]
   exact ⟨rfl, ⟨gi, by omega, P3⟩, het, F⟩
 ·refine au 7 ?_
  refine aX rfl rfl ?_
  refine aU ?_
  refine hret rfl ?_
  rw [if_pos Om, hne]
  exact ⟨rfl, ⟨gi, by omega, P3⟩, het, F⟩
end
end Go.Proofs.YtgfafidlkldeaaaGreat
