/- From a row's reading of a welcome or an info to the walk's word for it. No conditions beyond the row's own. -/
import Derived.Test.YtpgalbgonmclaaaMsT
import Derived.Test.YtpgalbgonmclaaaRowW
import Derived.Test.YtpgalbgonmclaaaRowC
/- Infos, welcomes and a guest's secrets, plainly and in memory; what bytes of them are read as: there. No conditions: plain definitions and lemmas. -/
namespace Go.Proofs.Ytpgalbgonmclaaa
open Go.RowKit
open Nd Wire
structure Inf where
  ctx : Ctx
  tag : List UInt8
  frm : Int
  sig : List UInt8
structure Gst where
  ref : List UInt8
  enc : List UInt8
  box : List UInt8
structure Wel where
  guests : List Gst
  info : List UInt8
def Ctx.zero : Ctx := ⟨[], 0, [], []⟩
def Inf.zero : Inf := ⟨Ctx.zero, [], 0, []⟩
def Gst.zero : Gst := ⟨[], [], []⟩
def Wel.zero : Wel := ⟨[], []⟩
theorem inf_eq {a b : Inf} : a = b ↔ a.ctx = b.ctx ∧ a.tag = b.tag ∧ a.frm = b.frm ∧ a.sig = b.sig := by
  constructor
  · intro h; subst h; exact ⟨rfl, rfl, rfl, rfl⟩
  · rintro ⟨h1, h2, h3, h4⟩; cases a; cases b; simp_all
theorem gst_eq {a b : Gst} : a = b ↔ a.ref = b.ref ∧ a.enc = b.enc ∧ a.box = b.box := by
  constructor
  · intro h; subst h; exact ⟨rfl, rfl, rfl⟩
  · rintro ⟨h1, h2, h3⟩; cases a; cases b; simp_all
theorem wel_eq {a b : Wel} : a = b ↔ a.guests = b.guests ∧ a.info = b.info := by
  constructor
  · intro h; subst h; exact ⟨rfl, rfl⟩
  · rintro ⟨h1, h2⟩; cases a; cases b; simp_all
instance (a b : Inf) : Decidable (a = b) := decidable_of_iff _ inf_eq.symm
instance (a b : Gst) : Decidable (a = b) := decidable_of_iff _ gst_eq.symm
instance : DecidableEq Gst := fun a b => inferInstance
instance (a b : Wel) : Decidable (a = b) := decidable_of_iff _ wel_eq.symm
/-- The four cells of a context, the seven of an info, the three of a guest, the two of a welcome. -/
def ctxH (g : Hd) (ep : Nat) (t u : Hd) : Array Value := #[.slice g.A g.n g.c, .int .u64 (ep : Int), .slice t.A t.n t.c, .slice u.A u.n u.c]
def infV (g : Hd) (ep : Nat) (t u tg : Hd) (z : Int) (sg : Hd) : Array Value := #[.slice g.A g.n g.c, .int .u64 (ep : Int), .slice t.A t.n t.c, .slice u.A u.n u.c, .slice tg.A tg.n tg.c, .int .i64 z, .slice sg.A sg.n sg.c]
def thrV (a b c : Hd) : Array Value := #[.slice a.A a.n a.c, .slice b.A b.n b.c, .slice c.A c.n c.c]
def CtxC (B : Hd → List UInt8 → Prop) (cs : Array Value) (x : Ctx) : Prop := ∃ g t u, cs = ctxH g x.ep t u ∧ x.ep < 18446744073709551616 ∧ B g x.grp ∧ B t x.tree ∧ B u x.trans
def InfC (B : Hd → List UInt8 → Prop) (cs : Array Value) (x : Inf) : Prop :=
  ∃ g t u tg sg, cs = infV g x.ctx.ep t u tg x.frm sg ∧ x.ctx.ep < 18446744073709551616 ∧ (-9223372036854775808 ≤ x.frm ∧ x.frm ≤ 9223372036854775807) ∧ B g x.ctx.grp ∧ B t x.ctx.tree ∧ B u x.ctx.trans ∧ B tg x.tag ∧ B sg x.sig
def GstC (B : Hd → List UInt8 → Prop) (cs : Array Value) (x : Gst) : Prop := ∃ a b c, cs = thrV a b c ∧ B a x.ref ∧ B b x.enc ∧ B c x.box
def InfAt (w : World) (cs : Array Value) (x : Inf) : Prop := InfC (BsH w) cs x
def GstAt (w : World) (cs : Array Value) (x : Gst) : Prop := GstC (BsH w) cs x
def WelAt (w : World) (cs : Array Value) (x : Wel) : Prop := ∃ h0 h1, cs = twoV h0 h1 ∧ Els GstAt 3 w h0.A h0.n x.guests ∧ BsH w h1 x.info
section
variable {B B' : Hd → List UInt8 → Prop} {cs : Array Value} {w w' : World}
theorem CtxC.imp {x : Ctx} (h : CtxC B cs x) (f : ∀ h xs, B h xs → B' h xs) : CtxC B' cs x := by
  obtain ⟨g, t, u, e, he, a, b, c⟩ := h
  exact ⟨g, t, u, e, he, f _ _ a, f _ _ b, f _ _ c⟩
theorem InfC.imp {x : Inf} (h : InfC B cs x) (f : ∀ h xs, B h xs → B' h xs) : InfC B' cs x := by
  obtain ⟨g, t, u, tg, sg, e, he, hz, a, b, c, d, k⟩ := h
  exact ⟨g, t, u, tg, sg, e, he, hz, f _ _ a, f _ _ b, f _ _ c, f _ _ d, f _ _ k⟩
theorem GstC.imp {x : Gst} (h : GstC B cs x) (f : ∀ h xs, B h xs → B' h xs) : GstC B' cs x := by
  obtain ⟨a, b, c, e, h1, h2, h3⟩ := h
  exact ⟨a, b, c, e, f _ _ h1, f _ _ h2, f _ _ h3⟩
theorem CtxC.at {x : Ctx} (h : CtxC (BsH w) cs x) : CtxAt w cs x := by
  obtain ⟨g, t, u, e, he, a, b, c⟩ := h
  exact ⟨g.A, t.A, u.A, g.n, g.c, t.n, t.c, u.n, u.c, e, a, b, c⟩
theorem InfC.ctx {x : Inf} (h : InfC B cs x) : CtxC B ((cs.toList.drop 0).take 4).toArray x.ctx := by
  obtain ⟨g, t, u, tg, sg, rfl, he, hz, a, b, c, d, k⟩ := h
  exact ⟨g, t, u, rfl, he, a, b, c⟩
theorem InfAt.ext {x : Inf} (h : InfAt w cs x) (e : Ext w w') : InfAt w' cs x := InfC.imp h fun _ _ b => Bs.ext b e
theorem GstAt.ext {x : Gst} (h : GstAt w cs x) (e : Ext w w') : GstAt w' cs x := GstC.imp h fun _ _ b => Bs.ext b e
theorem WelAt.ext {x : Wel} (h : WelAt w cs x) (e : Ext w w') : WelAt w' cs x := by
  obtain ⟨h0, h1, rfl, a, b⟩ := h
  exact ⟨h0, h1, rfl, a.ext e fun _ _ h => GstAt.ext h e, Bs.ext b e⟩
end
def okInf (i : Inf) : Prop := i.ctx.grp.length ≤ 64 ∧ i.ctx.tree.length = 32 ∧ i.ctx.trans.length = 32 ∧ i.tag.length = 32 ∧ (0 ≤ i.frm ∧ i.frm ≤ 65535) ∧ i.sig.length = 64
instance (i : Inf) : Decidable (okInf i) := by unfold okInf; infer_instance
def Inf.Small (i : Inf) : Prop := i.ctx.Small ∧ i.tag.length ≤ 100 ∧ i.sig.length ≤ 100
def Gst.Small (g : Gst) : Prop := g.ref.length ≤ 100 ∧ g.enc.length ≤ 100 ∧ g.box.length ≤ 200
instance (g : Gst) : Decidable g.Small := by unfold Gst.Small; infer_instance
def Gst.Fit (g : Gst) : Prop := g.ref.length ≤ 1000000 ∧ g.enc.length ≤ 1000000 ∧ g.box.length ≤ 1000000
def Wel.Small (x : Wel) : Prop := x.guests.length < 70 ∧ (∀ g ∈ x.guests, g.Small) ∧ x.info.length ≤ 500
instance (x : Wel) : Decidable x.Small := by unfold Wel.Small; infer_instance
def Wel.Fit (x : Wel) : Prop := x.guests.length ≤ 10000 ∧ (∀ g ∈ x.guests, g.Fit) ∧ x.info.length ≤ 1000000
/-! Their bytes. -/
def infT (i : Inf) : List UInt8 := ctxBytes i.ctx ++ [0] ++ vec i.tag ++ be 4 (w64 i.frm)
def infB (i : Inf) : List UInt8 := infT i ++ vec i.sig
namespace M20
/-! How they are read. -/
def infX (s : St) : Inf × St :=
  let c := ctxX s
  let t := vecX (justX 1 0 c.2)
  let f := numX 4 t.2
  let g := vecX f.2
  (⟨c.1, t.1, (f.1 : Int), g.1⟩, g.2)
/-- What is handed back of bytes as a whole: what may be, or an error. -/
def wholeX {α : Type} (z : α) (p : α × St) (ok : Bool) : α × Nat := if endX p.2 ≠ 0 then (z, endX p.2) else if ok then (p.1, 0) else (z, 3)
def infOf (b : List UInt8) : Inf × Nat := wholeX Inf.zero (infX (.ok b)) (decide (okInf (infX (.ok b)).1))
theorem wholeX_zero {α : Type} {z : α} {p : α × St} {ok : Bool} (h : (wholeX z p ok).2 ≠ 0) : (wholeX z p ok).1 = z := by
  unfold wholeX at h ⊢
  by_cases h1 : endX p.2 ≠ 0
  · rw [if_pos h1]
  · rw [if_neg h1] at h ⊢
    cases ok with
    | false => rw [if_neg (by decide)]
    | true => rw [if_pos rfl] at h; exact absurd rfl h
end M20
end Go.Proofs.Ytpgalbgonmclaaa

namespace Go.Proofs.Ytpgalbgonmclaaa
open Go.ChangeShapes Go.WideShapes Go.ChangeAt Go.RowKit
section
variable {H : Type} {enc : TypeId × Value → H} {W : World} {base : Nat} {spare : Nat → Bool} {held : Bool}
theorem trod_ctx {fuel : Nat} {cs : List Value} {x : DataW H × List MemPlace} (h : DataW.trod enc Try.prog W base spare held fuel 50 cs = some x) : ∃ c, CtxAt W cs.toArray c ∧ c.ep < 18446744073709551616 := by
  have h' : DataW.Trod enc Try.prog W base spare held 50 (.agg cs.toArray) x.1 x.2 := ⟨fuel, h⟩
  obtain ⟨c', c, e, hx, he, _⟩ := open_ctx h'
  injection e with e
  rw [e]
  exact ⟨c, hx, he⟩
theorem trod_inf {fuel : Nat} {cs : List Value} {x : DataW H × List MemPlace} (h : DataW.trod enc Try.prog W base spare held fuel 67 cs = some x) : ∃ p, InfAt W cs.toArray p := by
  obtain ⟨fuel', hl, hfs⟩ := trod_struct Try.underlying67 h
  have hc : Try.prog.cellsOf 67 = 7 := by kernel_rfl
  rw [hc] at hl
  have c0 : Try.prog.cellsOf 22 = 1 := by kernel_rfl
  have c1 : Try.prog.cellsOf 50 = 4 := by kernel_rfl
  have c3 : Try.prog.cellsOf 3 = 1 := by kernel_rfl
  obtain ⟨y0, t0⟩ := hfs 0 _ rfl
  obtain ⟨_, t1⟩ := hfs 1 _ rfl
  obtain ⟨_, t2⟩ := hfs 2 _ rfl
  obtain ⟨_, t3⟩ := hfs 3 _ rfl
  obtain ⟨c, ⟨A1, A2, A3, n1, d1, n2, d2, n3, d3, e0, b0, b1, b2⟩, hep⟩ := trod_ctx t0
  obtain ⟨A4, n4, k4, r4, e4, b4, _⟩ := trod_bytes t1
  obtain ⟨z, e5, z0, z1⟩ := trod_i64 t2
  obtain ⟨A6, n6, k6, r6, e6, b6, _⟩ := trod_bytes t3
  have e : cs.drop 0 = _ := some_of (o := 0) c1 e0
  rw [one_of (o := 4) c0 e4, one_of (o := 5) c3 e5, one_of (o := 6) c0 e6, end_of hl] at e
  refine ⟨⟨c, r4, z, r6⟩, ⟨A1, n1, d1⟩, ⟨A2, n2, d2⟩, ⟨A3, n3, d3⟩, ⟨A4, n4, k4⟩, ⟨A6, n6, k6⟩, ?_, hep, ⟨z0, z1⟩, b0, b1, b2, b4, b6⟩
  rw [show cs = _ from e]
  rfl
theorem open_inf {v : Value} {d : DataW H} {p : List MemPlace} (h : DataW.Trod enc Try.prog W base spare held 67 v d p) : ∃ cs x, v = .agg cs ∧ InfAt W cs x := by
  obtain ⟨fuel, hf⟩ := h
  obtain ⟨x, hx⟩ := trod_inf hf
  obtain ⟨_, hl, _⟩ := trod_struct Try.underlying67 hf
  exact ⟨_, x, agg_of rfl (by rw [hl]; decide +kernel), hx⟩
end
end Go.Proofs.Ytpgalbgonmclaaa
