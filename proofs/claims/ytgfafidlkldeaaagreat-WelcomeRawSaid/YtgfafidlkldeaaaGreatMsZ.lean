/- What the message layer's reader takes: contexts and messages; bytes as a whole. No conditions: contracts of the program's functions. -/
import Derived.Test.YtgfafidlkldeaaaGreatRowC
import Derived.Test.YtgfafidlkldeaaaGreatAu
import Derived.Test.YtgfafidlkldeaaaGreatMsB
set_option linter.unusedVariables false
set_option linter.unusedSimpArgs false
set_option maxHeartbeats 4000000
set_option maxRecDepth 4000
namespace Go.Proofs.YtgfafidlkldeaaaGreat
section
open Go.RowKit
attribute [local irreducible] Y Ef WL WC WK WQ WM cE WN WF dc
open Nd Wire
instance (c : Ctx) : Decidable c.Small := by unfold Ctx.Small; infer_instance
section
variable {cs ds : Array Value} {m : rR} {c : Ctx}
/-! The reference. -/
end
end
section
open Go.RowKit Tryz
attribute [local irreducible] Y Ef WL WC WK WQ WM cE WN WF dc
open Nd Wire
theorem Ke {a b : Pack} : a = b ↔ a.init = b.init ∧ a.leaf = b.leaf ∧ a.sig = b.sig := by
 constructor
 ·rintro rfl; simp
 ·cases a; cases b; simp_all
instance (a b : Pack) : Decidable (a = b) := decidable_of_iff _ Ke.symm
theorem JS {a b : fA} : a = b ↔ a.kind = b.kind ∧ a.pack = b.pack ∧ a.leaf = b.leaf ∧ a.at_ = b.at_ := by
 constructor
 ·rintro rfl; simp
 ·cases a; cases b; simp_all
instance (a b : fA) : Decidable (a = b) := decidable_of_iff _ JS.symm
theorem Nn {a b : Lo} : a = b ↔ a.enc = b.enc ∧ a.box = b.box := by
 constructor
 ·rintro rfl; simp
 ·cases a; cases b; simp_all
instance : DecidableEq Lo := fun a b => decidable_of_iff _ Nn.symm
theorem LZ {a b : Mm} : a = b ↔ a.box = b.box ∧ a.to = b.to := by
 constructor
 ·rintro rfl; simp
 ·cases a; cases b; simp_all
instance : DecidableEq Mm := fun a b => decidable_of_iff _ LZ.symm
theorem J9 {a b : mI} : a = b ↔ a.ref = b.ref ∧ a.prop = b.prop := by
 constructor
 ·rintro rfl; simp
 ·cases a; cases b; simp_all
instance : DecidableEq mI := fun a b => decidable_of_iff _ J9.symm
theorem Nk {a b : ru} : a = b ↔ a.items = b.items ∧ a.has = b.has ∧ a.way.leaf = b.way.leaf ∧ a.way.steps = b.way.steps := by
 constructor
 ·rintro rfl; simp
 ·obtain ⟨i, h, l, s⟩ := a
  obtain ⟨i', h', l', s'⟩ := b
  rintro ⟨h1, h2, h3, h4⟩
  simp only at h1 h2 h3 h4
  subst h1; subst h2; subst h3; subst h4; rfl
instance (a b : ru) : Decidable (a = b) := decidable_of_iff _ Nk.symm
def Ctx.Fit (c : Ctx) : Prop := c.grp.length ≤ 1000000 ∧ c.tree.length ≤ 1000000 ∧ c.trans.length ≤ 1000000
def nz (a b : rR) : Prop := a.group = b.group ∧ a.epoch = b.epoch ∧ a.frm = b.frm ∧ a.kind = b.kind ∧ a.prop = b.prop ∧ a.com = b.com
instance (a b : rR) : Decidable (nz a b) := by unfold nz; infer_instance
theorem Kv {a b : rR} : a = b ↔ nz a b ∧ a.sig = b.sig ∧ a.tag = b.tag ∧ a.member = b.member := by
 unfold nz
 constructor
 ·rintro rfl; simp
 ·cases a; cases b; simp_all
instance (a b : rR) : Decidable (a = b) := decidable_of_iff _ Kv.symm
theorem Gw {a b : Ctx} : a = b ↔ a.grp = b.grp ∧ a.ep = b.ep ∧ a.tree = b.tree ∧ a.trans = b.trans := by
 constructor
 ·rintro rfl; simp
 ·cases a; cases b; simp_all
instance (a b : Ctx) : Decidable (a = b) := decidable_of_iff _ Gw.symm
section
variable {cs ds : Array Value}
theorem rS {a b : Ctx} (w : World) (H : gY w cs a) (K : gY w ds b) (hf : a.Fit) (hg : b.Fit) :
  Ct 64 #[.agg cs, .agg ds] w fun e w' => e = .returned (.bool (decide (a = b))) ∧ Ext w w' := by
 obtain ⟨A1, A2, A3, n1, d1, n2, d2, n3, d3, rfl, H1, H2, H3⟩ := H
 obtain ⟨Vw, Vx, Vy, m1, e1, m2, e2, m3, e3, rfl, Q1, Q2, Q3⟩ := K
 have i1 := H1.1; have i2 := H2.1; have i3 := H3.1; have j1 := Q1.1; have j2 := Q2.1; have j3 := Q3.1
 obtain ⟨f1, f2, f3⟩ := hf
 obtain ⟨g1, g2, g3⟩ := hg
 have E := Ext.refl w
 refine ai 31 func64 rfl rfl rfl rfl ?_
 intro _ hret
 refine aU ?_
 intro w1 g1 (B1 : ao _ _ _ (HQ A1 A2 A3 n1 d1 n2 d2 n3 d3 a.ep)) Vz ex
 replace E := E.ext ex
 refine aU ?_
 intro w2 g2 (B2 : ao _ _ _ (HQ Vw Vx Vy m1 e1 m2 e2 m3 e3 b.ep)) VA ex
 obtain ⟨E,B1⟩ := ba ex E B1
 refine aU ?_
 refine aB func26 rfl (km (Bs.ext H1 E) (Bs.ext Q1 E) Om Om) ?_
 rintro e _ ⟨rfl, ex⟩
 obtain ⟨E,B1,B2⟩ := bC ex E B1 B2
 refine au 1 ?_
 refine aR (aQ rfl) rfl (fun q0 => ?_) (fun q0 => ?_)
 ·refine au 6 ?_
  refine aR (aQ rfl) rfl (fun q1 => ?_) (fun q1 => ?_)
  ·refine aU ?_
   refine df 17 rfl rfl func26 rfl rfl rfl (km (Bs.ext H2 E) (Bs.ext Q2 E) Om Om) rfl ?_
   rintro e _ ⟨rfl, ex⟩
   obtain ⟨E,B1,B2⟩ := bC ex E B1 B2
   refine au 2 ?_
   refine aR (aQ rfl) rfl (fun q2 => ?_) (fun q2 => ?_)
   ·refine aU ?_
    refine df 24 rfl rfl func26 rfl rfl rfl (km (Bs.ext H3 E) (Bs.ext Q3 E) Om Om) rfl ?_
    rintro e _ ⟨rfl, ex⟩
    replace E := E.ext ex
    refine aU ?_
    refine hret rfl ?_
    exact ⟨cV ⟨fun h => Gw.2 ⟨q0, by omega, q2, h⟩, fun h => by rw [h]⟩, E⟩
   ·refine aU ?_
    refine hret rfl ?_
    exact ⟨aI fun h => q2 (by rw [h]), E⟩
  ·refine aU ?_
   refine hret rfl ?_
   exact ⟨aI fun h => q1 (by rw [h]), E⟩
 ·refine aU ?_
  refine hret rfl ?_
  exact ⟨aI fun h => q0 (by rw [h]), E⟩
end
end
section
open Go.RowKit
namespace M20
open Wire Nd
/-! Each thing in its turn. -/
def db (k n : Nat) (s : St) : St := match (dK k s).2 with
 | .ok r => if (dK k s).1 = n then .ok r else .error 3
 | .error c => .error c
def fY (s : St) : Bool × St := match (dK 1 s).2 with
 | .ok r => if 1 < (dK 1 s).1 then (false, .error 3) else (decide ((dK 1 s).1 = 1), .ok r)
 | .error c => (false, .error c)
/-! There. -/
end M20
end
section
open Go.RowKit
attribute [local irreducible] Y Ef WL WC WK WQ WM cE WN WF dc
namespace M20
open Wire Nd
def tW (s : St) : Ctx × St :=
 let g := cU (db 2 1 (db 2 1 s))
 let e := dK 8 g.2
 let t := cU e.2
 let u := cU t.2
 (⟨g.1, e.1, t.1, u.1⟩, db 1 0 u.2)
end M20
open M20
end
section
open Go.RowKit
namespace M20
open Wire Nd
/-! Back: what is read stands there. -/
theorem Fq (t : St) : (∃ c, t = .error c) ∨ ∃ q, t = .ok q := by
 cases t with
 | error c => exact .inl ⟨c, rfl⟩
 | ok q => exact .inr ⟨q, rfl⟩
/-! Messages. -/
end M20
end
section
open Go.RowKit
def JX (w : World) (base : Nat) (e : TypeId) (sz : Nat) (A : Oa) (n c : Nat) (xs : List Value) : Prop := w.ownsRow base e sz (.slice A n c) n xs
section
variable {w w' : World} {base : Nat} {e : TypeId} {sz : Nat} {A : Oa} {n c m : Nat} {xs : List Value} {S : List Nat}
end
structure DQ (P : Program) (t e : TypeId) (sz bytes : Nat) : Prop where
 ht : P.underlying t = some (.slice e)
 pos : 0 < sz
 row : ∃ (i : TypeInfo) (z : Value), P.info? e = some i ∧ i.zero = some z ∧ i.size = sz ∧ i.bytes = bytes ∧ z.cells.size = sz
theorem DQ.of {P : Program} {t e : TypeId} {z : Value} {sz bytes : Nat} (ht : P.underlying t = some (.slice e)) (h : (P.info? e).map (fun i => (i.zero, i.size, i.bytes)) = some (some z, sz, bytes)) (hz : z.cells.size = sz) (hp : 0 < sz) : DQ P t e sz bytes := by
 obtain ⟨i, h1, h2, h3, h4⟩ := info_parts h
 exact ⟨ht, hp, i, z, h1, h2, h3, h4, hz⟩
section
variable {P : Program} {L : List (Nat × Value)} {w : World} {ty t e : TypeId} {x y : Operand}
end
section
variable {N : Nat} {S S' : List Nat} {Φ Ψ : World → Prop} {w w' : World} {o o' : Option Nat}
theorem Kp.rM (h : Kp N S Φ w) {M : Nat} (h1 : N ≤ M) (h2 : M ≤ w.heap.size) : Kp M S Φ w := ⟨h2, fun w2 hw => h.2 w2 fun k hk hn => hw k Om hn⟩
theorem Kp.and (h : Kp N S Φ w) (k : Kp N S Ψ w) : Kp N S (fun w => Φ w ∧ Ψ w) w := ⟨h.1, fun w2 hw => ⟨h.2 w2 hw, k.2 w2 hw⟩⟩
end
section
variable {α : Type} {R : World → Array Value → α → Prop} {sz : Nat} {e : TypeId} {base N : Nat} {S S' : List Nat} {w w' : World} {A : Oa} {n c : Nat} {zs : List α}
end
end
section
open Go.RowKit
open Nd Wire
structure kb where
 ctx : Ctx
 tag : List UInt8
 frm : Int
 sig : List UInt8
structure mx where
 ref : List UInt8
 enc : List UInt8
 box : List UInt8
structure kX where
 guests : List mx
 info : List UInt8
def Ctx.zero : Ctx := ⟨[], 0, [], []⟩
def kb.zero : kb := ⟨Ctx.zero, [], 0, []⟩
def kX.zero : kX := ⟨[], []⟩
theorem EE {a b : kb} : a = b ↔ a.ctx = b.ctx ∧ a.tag = b.tag ∧ a.frm = b.frm ∧ a.sig = b.sig := by
 constructor
 ·intro h; subst h; exact ⟨rfl, rfl, rfl, rfl⟩
 ·rintro ⟨_, _, _, _⟩; cases a; cases b; simp_all
theorem LQ {a b : mx} : a = b ↔ a.ref = b.ref ∧ a.enc = b.enc ∧ a.box = b.box := by
 constructor
 ·intro h; subst h; exact ⟨rfl, rfl, rfl⟩
 ·rintro ⟨_, _, _⟩; cases a; cases b; simp_all
theorem MN {a b : kX} : a = b ↔ a.guests = b.guests ∧ a.info = b.info := by
 constructor
 ·intro h; subst h; exact ⟨rfl, rfl⟩
 ·rintro ⟨_, _⟩; cases a; cases b; simp_all
instance (a b : kb) : Decidable (a = b) := decidable_of_iff _ EE.symm
instance (a b : mx) : Decidable (a = b) := decidable_of_iff _ LQ.symm
instance : DecidableEq mx := fun a b => inferInstance
instance (a b : kX) : Decidable (a = b) := decidable_of_iff _ MN.symm
def Cf (g : Hd) (ep : Nat) (t u : Hd) : Array Value := #[.slice g.A g.n g.c, .int .u64 (ep : Int), .slice t.A t.n t.c, .slice u.A u.n u.c]
def pq (g : Hd) (ep : Nat) (t u tg : Hd) (z : Int) (sg : Hd) : Array Value := #[.slice g.A g.n g.c, .int .u64 (ep : Int), .slice t.A t.n t.c, .slice u.A u.n u.c, .slice tg.A tg.n tg.c, .int .i64 z, .slice sg.A sg.n sg.c]
def fN (a b c : Hd) : Array Value := #[.slice a.A a.n a.c, .slice b.A b.n b.c, .slice c.A c.n c.c]
def DR (B : Hd → List UInt8 → Prop) (cs : Array Value) (x : Ctx) : Prop := ∃ g t u, cs = Cf g x.ep t u ∧ x.ep < 18446744073709551616 ∧ B g x.grp ∧ B t x.tree ∧ B u x.trans
def j8 (B : Hd → List UInt8 → Prop) (cs : Array Value) (x : kb) : Prop :=
 ∃ g t u tg sg, cs = pq g x.ctx.ep t u tg x.frm sg ∧ x.ctx.ep < 18446744073709551616 ∧ (-9223372036854775808 ≤ x.frm ∧ x.frm ≤ 9223372036854775807) ∧ B g x.ctx.grp ∧ B t x.ctx.tree ∧ B u x.ctx.trans ∧ B tg x.tag ∧ B sg x.sig
def DC (B : Hd → List UInt8 → Prop) (cs : Array Value) (x : mx) : Prop := ∃ a b c, cs = fN a b c ∧ B a x.ref ∧ B b x.enc ∧ B c x.box
def ir (w : World) (cs : Array Value) (x : kb) : Prop := j8 (kP w) cs x
def oX (w : World) (cs : Array Value) (x : mx) : Prop := DC (kP w) cs x
def uW (w : World) (cs : Array Value) (x : kX) : Prop := ∃ h0 h1, cs = jZ h0 h1 ∧ xV oX 3 w h0.A h0.n x.guests ∧ kP w h1 x.info
section
variable {B B' : Hd → List UInt8 → Prop} {cs : Array Value} {w w' : World}
theorem j8.imp {x : kb} (h : j8 B cs x) (f : ∀ h xs, B h xs → B' h xs) : j8 B' cs x := by
 obtain ⟨g, t, u, tg, sg, e, he, hz, a, b, c, d, k⟩ := h
 exact ⟨g, t, u, tg, sg, e, he, hz, f _ _ a, f _ _ b, f _ _ c, f _ _ d, f _ _ k⟩
theorem DC.imp {x : mx} (h : DC B cs x) (f : ∀ h xs, B h xs → B' h xs) : DC B' cs x := by
 obtain ⟨a, b, c, e, h1, h2, h3⟩ := h
 exact ⟨a, b, c, e, f _ _ h1, f _ _ h2, f _ _ h3⟩
theorem DR.at {x : Ctx} (h : DR (kP w) cs x) : gY w cs x := by
 obtain ⟨g, t, u, e, he, a, b, c⟩ := h
 exact ⟨g.A, t.A, u.A, g.n, g.c, t.n, t.c, u.n, u.c, e, a, b, c⟩
theorem j8.ctx {x : kb} (h : j8 B cs x) : DR B ((cs.toList.drop 0).take 4).toArray x.ctx := by
 obtain ⟨g, t, u, tg, sg, rfl, he, hz, a, b, c, d, k⟩ := h
 exact ⟨g, t, u, rfl, he, a, b, c⟩
theorem ir.ext {x : kb} (h : ir w cs x) (e : Ext w w') : ir w' cs x := j8.imp h fun _ _ b => Bs.ext b e
theorem oX.ext {x : mx} (h : oX w cs x) (e : Ext w w') : oX w' cs x := DC.imp h fun _ _ b => Bs.ext b e
theorem uW.ext {x : kX} (h : uW w cs x) (e : Ext w w') : uW w' cs x := by
 obtain ⟨h0, h1, rfl, a, b⟩ := h
 exact ⟨h0, h1, rfl, a.ext e fun _ _ h => oX.ext h e, Bs.ext b e⟩
end
def jq (i : kb) : Prop := i.ctx.grp.length ≤ 64 ∧ i.ctx.tree.length = 32 ∧ i.ctx.trans.length = 32 ∧ i.tag.length = 32 ∧ (0 ≤ i.frm ∧ i.frm ≤ 65535) ∧ i.sig.length = 64
instance (i : kb) : Decidable (jq i) := by unfold jq; infer_instance
def wZ (j y : Lb) : Prop := j.length = 32 ∧ (y.length = 0 ∨ y.length = 32)
instance (j y : Lb) : Decidable (wZ j y) := by unfold wZ; infer_instance
def mx.Small (g : mx) : Prop := g.ref.length ≤ 100 ∧ g.enc.length ≤ 100 ∧ g.box.length ≤ 200
instance (g : mx) : Decidable g.Small := by unfold mx.Small; infer_instance
def kX.Small (x : kX) : Prop := x.guests.length < 70 ∧ (∀ g ∈ x.guests, g.Small) ∧ x.info.length ≤ 500
instance (x : kX) : Decidable x.Small := by unfold kX.Small; infer_instance
/-! Their bytes. -/
namespace M20
/-! How they are read. -/
def j9 (s : St) : kb × St :=
 let c := tW s
 let t := cU (db 1 0 c.2)
 let f := dK 4 t.2
 let g := cU f.2
 (⟨c.1, t.1, (f.1 : Int), g.1⟩, g.2)
def iL (s : St) : (List UInt8 × Bool × List UInt8) × St :=
 let j := cU s
 let h := fY j.2
 let y := if h.1 then cU h.2 else ([], h.2)
 ((j.1, h.1, y.1), y.2)
def cN {α : Type} (z : α) (p : α × St) (ok : Bool) : α × Nat := if eo p.2 ≠ 0 then (z, eo p.2) else if ok then (p.1, 0) else (z, 3)
def cW (b : Lb) : kb × Nat := cN kb.zero (j9 (.ok b)) (decide (jq (j9 (.ok b)).1))
def eZ (p : List UInt8 × Bool × List UInt8) : Prop := wZ p.1 p.2.2 ∧ (p.2.1 = true ↔ 0 < p.2.2.length)
instance (p : List UInt8 × Bool × List UInt8) : Decidable (eZ p) := by unfold eZ; infer_instance
def bJ (b : Lb) : (List UInt8 × Bool × List UInt8) × Nat := cN ([], false, []) (iL (.ok b)) (decide (eZ (iL (.ok b)).1))
theorem wQ {α : Type} {z : α} {p : α × St} {ok : Bool} (h : (cN z p ok).2 ≠ 0) : (cN z p ok).1 = z := by
 unfold cN at h ⊢
 by_cases h1 : eo p.2 ≠ 0
 ·rw [if_pos h1]
 ·rw [if_neg h1] at h ⊢
  cases ok with
  | false => rw [if_neg (by decide)]
  | true => rw [if_pos rfl] at h; exact absurd rfl h
end M20
end
section
open Go.ChangeShapes Go.WideShapes Go.ChangeAt Go.RowKit
section
variable {H : Type} {enc : TypeId × Value → H} {W : World} {base : Nat} {spare : Nat → Bool} {held : Bool}
theorem xR {fuel : Nat} {cs : List Value} {x : DataW H × List MemPlace} (h : DataW.trod enc Tryz.prog W base spare held fuel 37 cs = some x) : ∃ p, oX W cs.toArray p := by
 obtain ⟨Vw, hl, hfs⟩ := trod_struct Tryz.underlying37 h
 have hc : Tryz.prog.cellsOf 37 = 3 := by kernel_rfl
 rw [hc] at hl
 have c0 : Tryz.prog.cellsOf 23 = 1 := by kernel_rfl
 have c1 : Tryz.prog.cellsOf 35 = 2 := by kernel_rfl
 obtain ⟨_, t0⟩ := hfs 0 _ rfl
 obtain ⟨_, t1⟩ := hfs 1 _ rfl
 obtain ⟨A0, n0, k0, r0, e0, b0, _⟩ := ic t0
 obtain ⟨b, f0, f1, e1, v0, v1⟩ := yz t1
 have e : cs.drop 0 = _ := qR (o := 0) c0 e0
 rw [Kc (o := 1) c1 e1, yX hl] at e
 refine ⟨⟨r0, b.enc, b.box⟩, ⟨A0, n0, k0⟩, f0, f1, ?_, b0, v0, v1⟩
 rw [show cs = _ from e]
 rfl
end
end
section
open Go.RowKit Tryz
attribute [local irreducible] Y Ef WL WC WK WQ WM cE WN WF dc WJ gJ
open Wire Nd M20
structure M5 (M : Nat) (V : List Nat) (w w' : World) : Prop where
 os : w'.os = w.os
 tape : w'.tape = w.tape
 output : w'.output = w.output
 size : w.heap.size ≤ w'.heap.size
 block : ∀ k, k < M → k ∉ V → w'.heap[k]? = w.heap[k]?
section
variable {M N k : Nat} {V S S' : List Nat} {w w' w'' : World} {Φ : World → Prop}
theorem aA.Md (h : aA S w w') (hM : M ≤ w.heap.size) (hS : ∀ k ∈ S, k < M → k ∈ V := by first | (simp; done) | (simp; omega)) : M5 M V w w' := ⟨h.os, h.tape, h.output, h.size, fun k hk hn => h.block k Om fun hm => hn (hS k hm hk)⟩
theorem _root_.Go.RowKit.Below.Md (h : Ext w w') (hM : M ≤ w.heap.size) : M5 M V w w' := (aA.of h []).Md hM (by simp)
theorem aA.MB (h : aA S w w') (l : M5 M V w' w'') (hM : w.heap.size ≤ M) (hV : ∀ k ∈ V, k ∈ S) : aA S w w'' :=
 ⟨l.os.trans h.os, l.tape.trans h.tape, l.output.trans h.output, Nat.le_trans h.size l.size, fun k hk hn => (l.block k Om fun hm => hn (hV k hm)).trans (h.block k hk hn)⟩
end
def OF (gr e : Nat) : Array Value := #[.pointer (some ⟨gr, 0, none⟩), .int .u8 (e : Int)]
theorem IC (gr e e' : Nat) {z : Int} (hz : z = (e' : Int)) : (OF gr e).setIfInBounds 1 (.int .u8 z) = OF gr e' := by subst hz; rfl
def pd (N : Nat) (S : List Nat) (w : World) (gi gr : Nat) (s : St) (e : Nat) : Prop := ao w gi 214 (OF gr e) ∧ gi ∈ S ∧ gi ≠ gr ∧ Rs N S w gr s
def In (N : Nat) (S : List Nat) (w : World) (gi gr : Nat) : St → Prop
 | .ok xs => pd N S w gi gr (.ok xs) 0
 | .error c => c ≠ 0 ∧ c < 256 ∧ ∃ s, pd N S w gi gr s c
section
variable {N M gi gr k e : Nat} {S S' V : List Nat} {w w' : World} {s : St}
theorem pd.ext (h : pd N S w gi gr s e) (E : Ext w w') : pd N S w' gi gr s e := ⟨h.1.ext E, h.2.1, h.2.2.1, h.2.2.2.ext E⟩
theorem pd.grow (h : pd N S w gi gr s e) (E : Ext w w') (hk : w.heap.size ≤ k) : pd N (k :: S) w' gi gr s e := ⟨h.1.ext E, List.mem_cons_of_mem _ h.2.1, h.2.2.1, h.2.2.2.grow E hk⟩
theorem pd.bo (h : pd N S w gi gr s e) (C : aA S' w w') (hs : ∀ k ∈ S', k ∈ S := by first | (simp; done) | (simp; assumption)) (hg : gi ∉ S' := by first | (simp; done) | (simp; omega)) (hr : gr ∉ S' := by first | (simp; done) | (simp; omega)) : pd N S w' gi gr s e := ⟨h.1.bo C hg, h.2.1, h.2.2.1, h.2.2.2.bo C hs hr⟩
theorem pd.mono (h : pd N S w gi gr s e) (hs : ∀ k ∈ S', k ∈ S) (hg : gi ∈ S') (hr : gr ∈ S') : pd N S' w gi gr s e := ⟨h.1, hg, h.2.2.1, h.2.2.2.mono hs hr⟩
theorem In.cases (h : In N S w gi gr s) : ∃ t, pd N S w gi gr t (bW s) ∧ bW s < 256 ∧ ((∃ xs, s = .ok xs ∧ t = s) ∨ (bW s ≠ 0 ∧ s = .error (bW s))) := by
 cases s with
 | ok xs => exact ⟨_, h, by show 0 < 256; omega, .inl ⟨xs, rfl, rfl⟩⟩
 | error c => obtain ⟨h1, h2, t, h⟩ := h; exact ⟨t, h, h2, .inr ⟨h1, rfl⟩⟩
theorem In.gX (h : In N S w gi gr s) : ao w gi 214 (OF gr (bW s)) := by obtain ⟨t, h, _⟩ := h.cases; exact h.1
theorem In.ne (h : In N S w gi gr s) : gi ≠ gr := by obtain ⟨t, h, _⟩ := h.cases; exact h.2.2.1
theorem In.OS (h : In N S w gi gr s) : gi < w.heap.size := h.gX.lt
theorem In.NT (h : In N S w gi gr s) : gr < w.heap.size := by obtain ⟨t, h, _⟩ := h.cases; exact h.2.2.2.lt
theorem In.Ju (h : In N S w gi gr s) : gi ∈ S := by obtain ⟨t, h, _⟩ := h.cases; exact h.2.1
theorem In.O0 (h : In N S w gi gr s) : gr ∈ S := by obtain ⟨t, h, _⟩ := h.cases; exact h.2.2.2.mem
theorem In.ext (h : In N S w gi gr s) (E : Ext w w') : In N S w' gi gr s := by
 cases s with
 | ok xs => exact pd.ext h E
 | error c => obtain ⟨h1, h2, t, h⟩ := h; exact ⟨h1, h2, t, h.ext E⟩
theorem In.grow (h : In N S w gi gr s) (E : Ext w w') (hk : w.heap.size ≤ k) : In N (k :: S) w' gi gr s := by
 cases s with
 | ok xs => exact pd.grow h E hk
 | error c => obtain ⟨h1, h2, t, h⟩ := h; exact ⟨h1, h2, t, h.grow E hk⟩
theorem In.bo (h : In N S w gi gr s) (C : aA S' w w') (hs : ∀ k ∈ S', k ∈ S := by first | (simp; done) | (simp; assumption)) (hg : gi ∉ S' := by first | (simp; done) | (simp; omega)) (hr : gr ∉ S' := by first | (simp; done) | (simp; omega)) : In N S w' gi gr s := by
 cases s with
 | ok xs => exact pd.bo h C hs hg hr
 | error c => obtain ⟨h1, h2, t, h⟩ := h; exact ⟨h1, h2, t, h.bo C hs hg hr⟩
theorem In.mono (h : In N S w gi gr s) (hs : ∀ k ∈ S', k ∈ S) (hg : gi ∈ S') (hr : gr ∈ S') : In N S' w gi gr s := by
 cases s with
 | ok xs => exact pd.mono h hs hg hr
 | error c => obtain ⟨h1, h2, t, h⟩ := h; exact ⟨h1, h2, t, h.mono hs hg hr⟩
end
/-! Wire's flag. -/
theorem I0 {s : St} {xs : Lb} (h : s = .ok xs ∨ (bW s ≠ 0 ∧ s = .error (bW s))) (he : bW s < 256) (hn : (tk xs (bW s) 1).2.1 = false) :
  ∃ c, fY s = (false, .error c) ∧ (tk xs (bW s) 1).2.2.2 = c ∧ c ≠ 0 ∧ c < 256 := by
 rcases h with rfl | ⟨h0, h1⟩
 ·have e : tk xs (bW (.ok xs)) 1 = tk xs 0 1 := rfl
  rw [e, qo xs 1 (z := 1) rfl] at hn ⊢
  cases xs with
  | nil => exact ⟨4, rfl, rfl, by omega, by omega⟩
  | cons b r => rw [if_neg (by simp)] at hn; cases hn
 ·generalize bW s = c at *
  subst h1
  exact ⟨c, rfl, by unfold tk; rw [if_pos h0], h0, he⟩
theorem rj (b : UInt8) (r : Lb) : fY (.ok (b :: r)) = if 1 < b.toNat then (false, .error 3) else (decide (b.toNat = 1), .ok r) := by
 unfold fY; rw [Bp]
theorem Ch {N : Nat} {S : List Nat} {g : Nat} {s : St} (w : World) (H0 : Rs N S w g s) :
  Ct 171 #[.pointer (some ⟨g, 0, none⟩)] w fun e w' => e = .returned (.bool (fY s).1) ∧ Rs N S w' g (fY s).2 ∧ aA [g] w w' := by
 obtain ⟨xs, H, he, hs⟩ := H0.rd
 have F := aA.refl [g] w
 refine ai 22 func171 rfl rfl rfl rfl ?_
 intro _ hret
 refine aU ?_
 refine aB func223 rfl (jo 1 _ he H) ?_
 rintro e w1 ⟨A1, n1, _, rfl, _, K1, H1, ex⟩
 replace F := F.bo ex
 refine aU ?_
 refine bA rfl (fun Vw => ?_) (fun Vw => ?_)
 ·refine aU ?_
  refine hret rfl ?_
  obtain ⟨c, e1, e2, h0, h9⟩ := I0 hs he (by simpa using Vw)
  rw [e2] at H1
  rw [e1]
  exact ⟨rfl, ⟨h0, h9, _, H1⟩, F⟩
 ·obtain ⟨b, r, rfl, ht⟩ := AH hs (by simpa using Vw)
  rw [ht] at K1 H1
  replace K1 : Kp N S (fun w => Bs w A1 n1 [b]) w1 := K1
  replace H1 : Rd N S w1 g r 0 := H1
  have Vy : n1 = 1 := K1.out.1.symm
  subst Vy
  obtain ⟨b1, o1, rfl, _, hcell⟩ := K1.out.get (k := 0) Om
  refine au 6 ?_
  refine ak (aw rfl rfl Tn.u Kr (j := 0) rfl Om) ?_
  refine ak (af rfl Tn.u rfl hcell) ?_
  refine aU ?_
  refine al rfl (fun Vx => ?_) (fun Vx => ?_)
  ·refine aU ?_
   refine aB func224 rfl (jf 3 3 rfl _ H1) ?_
   rintro e _ ⟨rfl, H2, ex⟩
   replace F := F.bo ex
   refine aU ?_
   refine hret rfl ?_
   rw [rj, if_pos (by have h : (1 : Int) < ((b.toNat : Nat) : Int) := Vx; omega)]
   exact ⟨rfl, ⟨by omega, by omega, _, H2⟩, F⟩
  ·refine au 5 ?_
   refine ak (aw rfl rfl Tn.u Kr (j := 0) rfl Om) ?_
   refine ak (af rfl Tn.u rfl hcell) ?_
   refine aU ?_
   refine hret rfl ?_
   have hb : ¬ 1 < b.toNat := by have h : ¬ (1 : Int) < ((b.toNat : Nat) : Int) := Vx; omega
   rw [rj, if_neg hb]
   exact ⟨by show _ = Ending.returned (.bool (decide (b.toNat = 1))); congr 2; exact decide_eq_decide.2 So, H1, F⟩
/-! Notes. -/
def Ao (z : Nat) : St → St
 | .ok xs => if z = 0 then .ok xs else .error z
 | .error c => .error c
section
variable {N gi gr e : Nat} {S : List Nat} {s : St}
theorem wV (z : Nat) (zi : Int) (hz : zi = (z : Int)) (w : World) (H : pd N S w gi gr s e) :
  Ct 169 #[.pointer (some ⟨gi, 0, none⟩), .int .u8 zi] w fun r w' => r = .returned (.tuple #[]) ∧ pd N S w' gi gr s (if e = 0 then z else e) ∧ aA [gi] w w' := by
 have H0 := H
 obtain ⟨B, hm, hne, R⟩ := H
 refine fp 13 func169 rfl rfl rfl rfl ?_
 intro _ hret
 refine aU ?_
 refine al rfl (fun Vw => ?_) (fun Vw => ?_)
 ·refine au 5 ?_
  refine ag (av rfl rfl rfl Kr B (by show 1 < 2; omega)) rfl ?_
  rintro _ _ ⟨rfl, D, cg⟩
  have ex := aA.one cg
  rw [IC gr e z hz] at D
  refine aU ?_
  refine hret (.inr rfl) ?_
  rw [if_pos Om]
  exact ⟨rfl, ⟨D, hm, hne, R.bo ex (by simpa using hm)⟩, ex⟩
 ·refine aU ?_
  refine hret (.inr rfl) ?_
  rw [if_neg Om]
  exact ⟨rfl, H0, aA.refl _ _⟩
theorem pd.code {w : World} (h : pd N S w gi gr s (bW s)) : In N S w gi gr s := by
 cases s with
 | ok xs => exact h
 | error c => exact ⟨h.2.2.2.1, h.2.2.2.2.1, _, h⟩
theorem lK (z : Nat) (zi : Int) (hz : zi = (z : Int)) (w : World) (H : pd N S w gi gr s 0) :
  Ct 169 #[.pointer (some ⟨gi, 0, none⟩), .int .u8 zi] w fun r w' => r = .returned (.tuple #[]) ∧ pd N S w' gi gr s z ∧ aA [gi] w w' :=
 (wV z zi hz w H).mono fun _ _ h => by rw [if_pos rfl] at h; exact h
theorem Ax (z : Nat) (zi : Int) (hz : zi = (z : Int)) (h8 : z < 256) (w : World) (H : In N S w gi gr s) :
    Ct 169 #[.pointer (some ⟨gi, 0, none⟩), .int .u8 zi] w fun r w' => r = .returned (.tuple #[]) ∧ In N S w' gi gr (Ao z s) ∧ aA [gi] w w' := by
  cases s with
  | ok xs =>
    refine (lK z zi hz w H).mono fun _ _ ⟨h1, h2, h3⟩ => ⟨h1, ?_, h3⟩
    show In N S _ gi gr (if z = 0 then .ok xs else .error z)
    by_cases h : z = 0
    · rw [if_pos h]; subst h; exact h2
    · rw [if_neg h]; exact ⟨h, h8, _, h2⟩
  | error c =>
    obtain ⟨k1, k2, t, H⟩ := H
    refine (wV z zi hz w H).mono fun _ _ ⟨h1, h2, h3⟩ => ⟨h1, ?_, h3⟩
    rw [if_neg k1] at h2
    exact ⟨k1, k2, t, h2⟩
theorem In.MW {w : World} (h : In N S w gi gr s) (e : bW s = 0) : ∃ xs, s = .ok xs := by
 cases s with
 | ok xs => exact ⟨xs, rfl⟩
 | error c => exact absurd e h.1
theorem In.EI {w : World} (h : In N S w gi gr s) (e : bW s ≠ 0) : ∃ c, s = .error c := by
 cases s with
 | ok xs => exact absurd rfl e
 | error c => exact ⟨c, rfl⟩
theorem qH (k : Nat) (z : Int) (hz : z = (k : Int)) (w : World) (hk : k = 1 ∨ k = 2 ∨ k = 4 ∨ k = 8) (H : In N S w gi gr s) :
  Ct 109 #[.pointer (some ⟨gi, 0, none⟩), .int .i64 z] w fun e w' => e = .returned (.int .u64 (((dK k s).1 : Nat) : Int)) ∧ In N S w' gi gr (dK k s).2 ∧ aA [gr, gi] w w' := by
 have F := aA.refl [gr, gi] w
 have hne := H.ne
 have hmi := H.Ju
 refine ai 25 func109 rfl rfl rfl rfl ?_
 intro _ hret
 refine au 11 ?_
 refine ak (af rfl Tn.u rfl (H.gX.get (i := 1) rfl)) ?_
 refine aU ?_
 refine al rfl (fun Vw => ?_) (fun Vw => ?_)
 ·refine aU ?_
  refine hret rfl ?_
  obtain ⟨c, rfl⟩ := H.EI Om
  exact ⟨rfl, H, F⟩
 ·obtain ⟨xs, rfl⟩ := H.MW Om
  have B := H.1
  refine aU ?_
  refine aB func182 rfl (Ee k z hz _ hk H.2.2.2) ?_
  rintro e _ ⟨rfl, R1, ex⟩
  obtain ⟨F,B⟩ := gA ex F B
  refine aU ?_
  refine aB func170 rfl (nw _ R1) ?_
  rintro e _ ⟨rfl, ex⟩
  obtain ⟨F,B,R1⟩ := bC ex F B R1
  refine aU ?_
  refine aB func169 rfl (lK _ _ rfl _ ⟨B, hmi, hne, R1⟩) ?_
  rintro e _ ⟨rfl, I3, ex⟩
  replace F := F.bo ex
  refine aU ?_
  refine hret rfl ?_
  exact ⟨rfl, I3.code, F⟩
theorem il (w : World) (H : In N S w gi gr s) :
  Ct 93 #[.pointer (some ⟨gi, 0, none⟩)] w fun e w' => ∃ A n c, e = .returned (.slice A n c) ∧ n ≤ c ∧ Fb w.heap.size w' A n (cU s).1 ∧ In N S w' gi gr (cU s).2 ∧ aA [gr, gi] w w' := by
 have F := aA.refl [gr, gi] w
 have hne := H.ne
 have hmi := H.Ju
 have hli := H.OS
 have hlr := H.NT
 refine ai 22 func93 rfl rfl rfl rfl ?_
 intro _ hret
 refine au 11 ?_
 refine ak (af rfl Tn.u rfl (H.gX.get (i := 1) rfl)) ?_
 refine aU ?_
 refine al rfl (fun Vx => ?_) (fun Vx => ?_)
 ·refine aU ?_
  refine hret rfl ?_
  obtain ⟨c, rfl⟩ := H.EI Om
  exact ⟨none, 0, 0, rfl, Nat.le_refl _, Fb.nil _ _ _, H, F⟩
 ·obtain ⟨xs, rfl⟩ := H.MW Om
  have B := H.1
  refine aU ?_
  refine aB func168 rfl (EV _ H.2.2.2) ?_
  rintro e _ ⟨A1, n1, c1, rfl, Vw, V1, R1, ex⟩
  replace F := F.bo ex
  replace B := B.bo ex; have J1 := V1.kk (S := [gr, gi]) So
  refine aU ?_
  refine aB func170 rfl (nw _ R1) ?_
  rintro e _ ⟨rfl, ex⟩
  obtain ⟨F,B,R1,J1⟩ := bO ex F B R1 J1
  refine aU ?_
  refine aB func169 rfl (lK _ _ rfl _ ⟨B, hmi, hne, R1⟩) ?_
  rintro e _ ⟨rfl, I3, ex⟩
  obtain ⟨F,J1⟩ := gA ex F J1
  refine aU ?_
  refine hret rfl ?_
  exact ⟨A1, n1, c1, rfl, Vw, J1.out, I3.code, F⟩
theorem Cy (w : World) (H : In N S w gi gr s) :
  Ct 94 #[.pointer (some ⟨gi, 0, none⟩)] w fun e w' => e = .returned (.bool (fY s).1) ∧ In N S w' gi gr (fY s).2 ∧ aA [gr, gi] w w' := by
 have F := aA.refl [gr, gi] w
 have hne := H.ne
 have hmi := H.Ju
 refine ai 22 func94 rfl rfl rfl rfl ?_
 intro _ hret
 refine au 11 ?_
 refine ak (af rfl Tn.u rfl (H.gX.get (i := 1) rfl)) ?_
 refine aU ?_
 refine al rfl (fun Vw => ?_) (fun Vw => ?_)
 ·refine aU ?_
  refine hret rfl ?_
  obtain ⟨c, rfl⟩ := H.EI Om
  exact ⟨rfl, H, F⟩
 ·obtain ⟨xs, rfl⟩ := H.MW Om
  have B := H.1
  refine aU ?_
  refine aB func171 rfl (Ch _ H.2.2.2) ?_
  rintro e _ ⟨rfl, R1, ex⟩
  obtain ⟨F,B⟩ := gA ex F B
  refine aU ?_
  refine aB func170 rfl (nw _ R1) ?_
  rintro e _ ⟨rfl, ex⟩
  obtain ⟨F,B,R1⟩ := bC ex F B R1
  refine aU ?_
  refine aB func169 rfl (lK _ _ rfl _ ⟨B, hmi, hne, R1⟩) ?_
  rintro e _ ⟨rfl, I3, ex⟩
  replace F := F.bo ex
  refine aU ?_
  refine hret rfl ?_
  exact ⟨rfl, I3.code, F⟩
theorem Aw {k n : Nat} (h : (dK k s).1 ≠ n) : db k n s = Ao 3 (dK k s).2 := by
 unfold db
 cases (dK k s).2 with
 | ok r => exact if_neg h
 | error c => rfl
theorem AS {k n : Nat} (h : (dK k s).1 = n) : db k n s = (dK k s).2 := by
 unfold db
 cases (dK k s).2 with
 | ok r => exact if_pos h
 | error c => rfl
theorem kV (k n : Nat) (z u : Int) (hz : z = (k : Int)) (hu : u = (n : Int)) (w : World) (hk : k = 1 ∨ k = 2 ∨ k = 4 ∨ k = 8) (H : In N S w gi gr s) :
  Ct 108 #[.pointer (some ⟨gi, 0, none⟩), .int .i64 z, .int .u64 u] w fun e w' => e = .returned (.tuple #[]) ∧ In N S w' gi gr (db k n s) ∧ aA [gr, gi] w w' := by
 have F := aA.refl [gr, gi] w
 refine fp 13 func108 rfl rfl rfl rfl ?_
 intro _ hret
 refine aU ?_
 refine aB func109 rfl (qH k z hz _ hk H) ?_
 rintro e _ ⟨rfl, H1, ex⟩
 replace F := F.bo ex
 refine aU ?_
 refine al rfl (fun Vw => ?_) (fun Vw => ?_)
 ·refine aU ?_
  refine aB func169 rfl (Ax 3 3 rfl Om _ H1) ?_
  rintro e _ ⟨rfl, H2, ex⟩
  replace F := F.bo ex
  refine aU ?_
  refine hret (.inr rfl) ?_
  rw [Aw Om]
  exact ⟨rfl, H2, F⟩
 ·refine aU ?_
  refine hret (.inr rfl) ?_
  rw [AS Om]
  exact ⟨rfl, H1, F⟩
end
/-! What is in a vector, one behind the other. -/
section
variable {N gi gr : Nat} {S V : List Nat} {s : St}
end
end
section
open Go.RowKit
attribute [local irreducible] Y Ef WL WC WK WQ WM cE WN WF dc WJ gJ
open Wire Nd M20
/-! In memory from a block on. -/
def Qg (base : Nat) (w : World) (cs : Array Value) (x : Ctx) : Prop := DR (fun h xs => Fb base w h.A h.n xs) cs x
def iX (base : Nat) (w : World) (cs : Array Value) (x : kb) : Prop := j8 (fun h xs => Fb base w h.A h.n xs) cs x
section
variable {base b : Nat} {w : World} {cs : Array Value} {S : List Nat}
theorem iX.mono {x : kb} (h : iX base w cs x) (hb : b ≤ base) : iX b w cs x := j8.imp h fun _ _ k => k.mono hb
theorem iX.at {x : kb} (h : iX base w cs x) : ir w cs x := j8.imp h fun _ _ k => k.1
theorem iX.kk {x : kb} (h : iX base w cs x) (hS : ∀ g ∈ S, g < base) : Kp w.heap.size S (fun w => iX base w cs x) w := ⟨Nat.le_refl _, fun w2 hw => j8.imp h fun _ _ k => (k.kk hS).2 w2 hw⟩
end
section
variable {N gi gr : Nat} {S : List Nat} {s : St}
end
end
section
open Go.RowKit
attribute [local irreducible] Y Ef WL WC WK WQ WM cE WN WF dc WJ gJ
open Wire Nd M20
section
variable {α : Type} {gc : Nat} {tc e : TypeId} {cf : Hd → Array Value} {R : World → Array Value → α → Prop} {sz gi N3 x gx : Nat} {zs : List α} {w w' : World}
end
section
variable {N3 M x gx gs gi base : Nat} {T : List Nat} {hd : Hd} {st : St}
end
theorem Ps {P : Nat → Prop} {a b : Nat} {L : List Nat} (ha : P a) (hb : P b) (hL : ∀ k ∈ L, P k) : ∀ k ∈ a :: b :: L, P k := fun k hk => by
 simp only [List.mem_cons] at hk
 rcases hk with rfl | rfl | hk
 ·exact ha
 ·exact hb
 ·exact hL k hk
section
variable {N gi gr : Nat} {S : List Nat} {s : St}
end
theorem pE (k n : Nat) (s : St) : pj (db k n s) ≤ pj s := by
 have h := yW (s := s) k
 unfold db
 rcases Fq (dK k s).2 with ⟨c, hc⟩ | ⟨q, hq⟩
 ·rw [hc]; exact Nat.zero_le _
 ·rw [hq] at h ⊢
  dsimp only
  split
  ·exact h
  ·exact Nat.zero_le _
section
variable {N3 M x gx gc gi base : Nat} {T : List Nat} {st : St}
end
section
variable {N gi gr : Nat} {S : List Nat} {s : St}
end
end
section
open Go.RowKit Tryz
attribute [local irreducible] Y Ef WL WC WK WQ WM cE WN WF dc WJ gJ
open Wire Nd M20
section
variable {N gi gr : Nat} {S : List Nat} {s : St}
theorem DO (w : World) (H0 : In N S w gi gr s) :
  Ct 107 #[.pointer (some ⟨gi, 0, none⟩)] w fun e w' => ∃ cs, e = .returned (.agg cs) ∧ Qg w.heap.size w' cs (tW s).1 ∧ In N S w' gi gr (tW s).2 ∧ aA [gr, gi] w w' := by
 have F := aA.refl [gr, gi] w
 have hmi := H0.Ju
 have hmr := H0.O0
 have hli := H0.OS
 have hlr := H0.NT
 have H := H0
 obtain ⟨g, hg⟩ : ∃ g, g = cU (db 2 1 (db 2 1 s)) := ⟨_, rfl⟩
 obtain ⟨e, he⟩ : ∃ e, e = dK 8 g.2 := ⟨_, rfl⟩
 have hX : tW s = (⟨g.1, e.1, (cU e.2).1, (cU (cU e.2).2).1⟩, db 1 0 (cU (cU e.2).2).2) := by rw [he, hg]; rfl
 have VA : e.1 < 18446744073709551616 := by rw [he]; exact pI 8 _
 refine aH (s := 4) 20 func107 rfl rfl rfl underlying40 rfl Kr rfl ?_
 intro _ hret
 refine aU ?_
 intro _ Vy B2 Vx ex
 replace F := F.grow ex Vx
 replace H := H.grow ex Vx
 refine aU ?_
 refine aB func108 rfl (kV 2 1 2 1 rfl rfl _ Om H) ?_
 rintro e _ ⟨rfl, H1, ex⟩
 obtain ⟨F,B2⟩ := gA ex F B2
 refine aU ?_
 refine aB func108 rfl (kV 2 1 2 1 rfl rfl _ Om H1) ?_
 rintro e _ ⟨rfl, H2, ex⟩
 obtain ⟨F,B2⟩ := gA ex F B2
 refine aU ?_
 have q2 := B2.lt; have q4 := F.size
 refine aB func93 rfl (il _ H2) ?_
 rintro e _ ⟨A1, n1, c1, rfl, _, V1, H3, ex⟩
 obtain ⟨F,B2⟩ := gA ex F B2
 rw [← hg] at H3 V1
 have J1 := V1.kk (S := [Vy, gr, gi]) So
 refine aU ?_
 refine aB func109 rfl (qH 8 8 rfl _ Om H3) ?_
 rintro e _ ⟨rfl, H4, ex⟩
 refine au 1 ?_
 rw [← he] at H4 ⊢
 obtain ⟨F,B2,J1⟩ := mv ex F B2 J1
 refine aU ?_
 have r2 := B2.lt; have r4 := F.size
 refine aB func93 rfl (il _ H4) ?_
 rintro e _ ⟨A2, n2, c2, rfl, _, V2, H5, ex⟩
 obtain ⟨F,B2,J1⟩ := mv ex F B2 J1
 have J2 := V2.kk (S := [Vy, gr, gi]) So
 refine aU ?_
 have u2 := B2.lt; have u4 := F.size
 refine aB func93 rfl (il _ H5) ?_
 rintro e _ ⟨A3, n3, c3, rfl, _, V3, H6, ex⟩
 refine au 1 ?_
 obtain ⟨F,B2,J1,J2⟩ := dj ex F B2 J1 J2
 have J3 := V3.kk (S := [Vy, gr, gi]) So
 refine ak (aq rfl (cells := Cf ⟨A1, n1, c1⟩ e.1 ⟨A2, n2, c2⟩ ⟨A3, n3, c3⟩) Kr) ?_
 refine aU ?_
 intro _ VB B3 Vw ex
 have Vz : Vy < VB := Nat.lt_of_lt_of_le B2.lt Vw
 replace F := F.grow ex Vw
 replace B2 := B2.grow ex Vw
 replace J1 := J1.grow ex Vw
 replace J2 := J2.grow ex Vw
 replace H6 := H6.grow ex Vw
 replace J3 := J3.grow ex Vw
 refine aU ?_
 intro _ D cg
 have ex := aA.one cg
 clear cg
 obtain ⟨F,B2,J1,J2,H6,J3⟩ := tM ex F B2 J1 J2 H6 J3
 replace B3 := D; clear D
 replace B3 := B3.congr (cs' := Cf ⟨A1, n1, c1⟩ e.1 ⟨A2, n2, c2⟩ ⟨A3, n3, c3⟩) rfl
 refine aU ?_
 refine aB func108 rfl (kV 1 0 1 0 rfl rfl _ Om H6) ?_
 rintro e _ ⟨rfl, H7, ex⟩
 obtain ⟨F,B2,J1,J2,J3,B3⟩ := tM ex F B2 J1 J2 J3 B3
 refine aU ?_
 intro _ D cg
 have ex := aA.one cg
 clear cg
 obtain ⟨F,J1,J2,J3,H7⟩ := jS ex F J1 J2 J3 H7
 replace B2 := D; clear D
 replace B2 := B2.congr (cs' := Cf ⟨A1, n1, c1⟩ e.1 ⟨A2, n2, c2⟩ ⟨A3, n3, c3⟩) rfl
 refine aU ?_
 refine hret rfl B2 rfl ?_
 rw [hX]; exact ⟨_, rfl, ⟨_, _, _, rfl, VA, J1.out.mono Om, J2.out.mono Om, J3.out.mono Om⟩, H7.mono (fun k hk => by simp [hk]) hmi hmr, (F.drop Om).drop Om⟩
end
theorem KO {N g : Nat} {S : List Nat} {w : World} {t : St} (h : Rs N S w g t) : eo t < 256 := by
  cases t with
  | error c => exact h.2.1
  | ok xs =>
    cases xs with
    | nil => show 0 < 256; omega
    | cons x xs => show 5 < 256; omega
theorem DG {t t' : St} (h : (∃ xs, t = .ok xs ∧ t' = t) ∨ (bW t ≠ 0 ∧ t = .error (bW t))) : bW (Ao (eo t') t) = eo t := by
 rcases h with ⟨xs, rfl, rfl⟩ | ⟨h0, h1⟩
 ·cases xs with
  | nil => rfl
  | cons x xs => rfl
 ·generalize bW t = c at *
  subst h1; rfl
theorem uO {A : Oa} {n c N : Nat} {b : Lb} {V : List Nat} {t : St} {okv : Bool} {ft fo : FuncId} {us vs : List Value} {Vw Vx : Func} {VA VB : Code} {Ψ : Nat → World → Prop} (w : World) (K : Kp N V (fun w => Bs w A n b) w) (hc : n ≤ c) (hn : n ≤ 1048576) (hV : ∀ k ∈ V, k < w.heap.size)
  (VC : Tryz.prog.funcs[ft]? = some Vw) (VD : Vw.body = some VA) (VE : (Vw.name == "runtime.NumGoroutine") = false) (VF : Tryz.prog.funcs[fo]? = some Vx) (VG : Vx.body = some VB) (VH : (Vx.name == "runtime.NumGoroutine") = false)
  (hT : ∀ (w1 : World) (gi gr : Nat), Ext w w1 → w.heap.size ≤ gi → w.heap.size ≤ gr → In N (gi :: gr :: V) w1 gi gr (.ok b) → (∀ k ∈ gi :: gr :: V, k < w1.heap.size) →
   Ct ft (.pointer (some ⟨gi, 0, none⟩) :: us).toArray w1 fun e w2 => e = .returned (.tuple #[]) ∧ In N (gi :: gr :: V) w2 gi gr t ∧ Ψ gi w2 ∧ M5 w.heap.size V w1 w2)
  (hΨ : ∀ gi w1 w2, w.heap.size ≤ gi → Ψ gi w1 → aA [gi] w1 w2 → Ψ gi w2)
  (hO : ∀ gi w1, Ψ gi w1 → eo t = 0 → Ct fo vs.toArray w1 fun e w2 => e = .returned (.bool okv) ∧ Ext w1 w2) :
  Ct 95 #[.slice A n c, .func (.func ft) #[] us.toArray, .func (.func fo) #[] vs.toArray] w fun e w' => e = .returned (.int .u8 (((if eo t ≠ 0 then eo t else if okv then 0 else 3 : Nat) : Nat) : Int)) ∧ (∃ gi, w.heap.size ≤ gi ∧ Ψ gi w') ∧ eo t < 256 ∧ aA V w w' := by
 have E := Ext.refl w
 have hbl := K.out.1
 refine ai 42 func95 rfl rfl rfl rfl ?_
 intro _ hret
 refine aU ?_
 refine aB func172 rfl (rC A n c b _ hc K) ?_
 rintro e w1 ⟨gr, rfl, _, R, ex⟩
 replace E := E.ext ex
 refine au 1 ?_
 have hlr := R.lt
 refine ak (aq rfl (cells := OF gr 0) Kr) ?_
 have R0 := R
 refine aU ?_
 intro w2 gi BI hgi ex
 replace E := E.ext ex
 replace R0 := R0.grow ex hgi
 refine aU ?_
 have H : In N (gi :: gr :: V) w2 gi gr (.ok b) := ⟨BI, List.mem_cons_self, by omega, R0⟩
 have z2 := BI.lt
 have z3 := E.size
 have z4 := H.NT
 refine ag (kA (Φ := fun v w' => v = .tuple #[] ∧ In N (gi :: gr :: V) w' gi gr t ∧ Ψ gi w' ∧ M5 w.heap.size V w2 w') (xs := [.tmp 16]) (vs := [.pointer (some ⟨gi, 0, none⟩)]) rfl VC VD VE rfl (hT w2 gi gr E Om Om H (Ps z2 z4 fun k hk => Nat.lt_of_lt_of_le (hV k hk) z3)) (fun _ _ ⟨h1, h2, h3, h4⟩ => ⟨_, h1, rfl, h2, h3, h4⟩)) rfl ?_
 rintro _ _ ⟨rfl, H3, P3, L3⟩
 have F := (aA.of E V).MB L3 (Nat.le_refl _) (fun k hk => hk)
 refine au 8 ?_
 refine ak (af rfl Tn.u rfl (H3.gX.get (i := 0) rfl)) ?_
 obtain ⟨t', I3, h8, hcs⟩ := H3.cases
 have Vz := KO I3.2.2.2
 have hne := DG hcs
 have het : eo t < 256 := by rcases hcs with ⟨xs, rfl, rfl⟩ | ⟨h, e⟩; exact Vz; rw [e]; exact h8
 refine aB func173 rfl (Dg _ I3.2.2.2) ?_
 rintro e _ ⟨rfl, ex⟩
 refine aU ?_
 obtain ⟨F,H3⟩ := ba ex F H3
 replace P3 := hΨ gi _ _ Om P3 (aA.of ex [gi])
 refine aB func169 rfl (Ax (eo t') _ rfl Vz _ H3) ?_
 rintro e w5 ⟨rfl, H5, ex⟩
 have z6 := F.size; replace P3 := hΨ gi _ _ Om P3 ex; replace F := F.MB (aA.Md (M := w.heap.size) (V := []) ex Om) (Nat.le_refl _) (by simp)
 obtain ⟨q, hq⟩ : ∃ q, q = Ao (eo t') t := ⟨_, rfl⟩; rw [← hq] at H5 hne; have BQ := H5.gX
 refine au 10 ?_
 refine aR (cL rfl rfl) rfl (fun h0 => ?_) (fun h0 => ?_)
 ·refine aU ?_
  refine Ei 30 rfl rfl (kA (Φ := fun v w' => v = .bool okv ∧ Ext w5 w') (xs := []) (vs := []) rfl VF VG VH rfl (hO gi _ P3 Om) (fun _ _ ⟨h1, h2⟩ => ⟨_, h1, rfl, h2⟩)) rfl ?_
  rintro _ _ ⟨rfl, ex⟩
  obtain ⟨F,BQ⟩ := ba ex F BQ
  replace P3 := hΨ gi _ _ Om P3 (aA.of ex [gi])
  refine aU ?_
  refine bA rfl (fun Vy => ?_) (fun Vy => ?_)
  ·refine au 4 ?_
   refine ag (av rfl rfl rfl Kr BQ (by show 1 < 2; omega)) rfl ?_
   rintro _ _ ⟨rfl, _, cg⟩
   have ex := aA.one cg
   have z7 := F.size; replace P3 := hΨ gi _ _ Om P3 ex; replace F := F.MB (aA.Md (M := w.heap.size) (V := []) ex Om) (Nat.le_refl _) (by simp)
   refine aU ?_
   refine hret rfl ?_
   rw [if_neg Om, if_neg (by simpa using Vy)]
   exact ⟨rfl, ⟨gi, by omega, P3⟩, het, F⟩
  ·refine aU ?_
   refine hret rfl ?_
   rw [if_neg Om, if_pos (by simpa using Vy), show bW q = 0 by omega]
   exact ⟨rfl, ⟨gi, by omega, P3⟩, het, F⟩
 ·refine au 7 ?_
  refine aX rfl rfl ?_
  refine aU ?_
  refine hret rfl ?_
  rw [if_pos Om, hne]
  exact ⟨rfl, ⟨gi, by omega, P3⟩, het, F⟩
end
end Go.Proofs.YtgfafidlkldeaaaGreat
