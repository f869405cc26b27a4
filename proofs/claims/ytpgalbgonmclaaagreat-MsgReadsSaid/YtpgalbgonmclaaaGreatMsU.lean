/- Infos, welcomes and a guest's secrets, plainly and in memory; what bytes of them are read as: there. No conditions: plain definitions and lemmas. -/
import Derived.Test.YtpgalbgonmclaaaGreatRowW
namespace Go.Proofs.YtpgalbgonmclaaaGreat
open Go.RowKit
open Nd Wire
structure Inf where
  ctx : Ctx
  tag : List UInt8
  frm : Int
  sig : List UInt8
structure Gst where
  ref : List UInt8
  enc : List UInt8
  box : List UInt8
structure Wel where
  guests : List Gst
  info : List UInt8
def Ctx.zero : Ctx := ⟨[], 0, [], []⟩
def Inf.zero : Inf := ⟨Ctx.zero, [], 0, []⟩
def Gst.zero : Gst := ⟨[], [], []⟩
def Wel.zero : Wel := ⟨[], []⟩
theorem inf_eq {a b : Inf} : a = b ↔ a.ctx = b.ctx ∧ a.tag = b.tag ∧ a.frm = b.frm ∧ a.sig = b.sig := by
  constructor
  · intro h; subst h; exact ⟨rfl, rfl, rfl, rfl⟩
  · rintro ⟨h1, h2, h3, h4⟩; cases a; cases b; simp_all
theorem gst_eq {a b : Gst} : a = b ↔ a.ref = b.ref ∧ a.enc = b.enc ∧ a.box = b.box := by
  constructor
  · intro h; subst h; exact ⟨rfl, rfl, rfl⟩
  · rintro ⟨h1, h2, h3⟩; cases a; cases b; simp_all
theorem wel_eq {a b : Wel} : a = b ↔ a.guests = b.guests ∧ a.info = b.info := by
  constructor
  · intro h; subst h; exact ⟨rfl, rfl⟩
  · rintro ⟨h1, h2⟩; cases a; cases b; simp_all
instance (a b : Inf) : Decidable (a = b) := decidable_of_iff _ inf_eq.symm
instance (a b : Gst) : Decidable (a = b) := decidable_of_iff _ gst_eq.symm
instance : DecidableEq Gst := fun a b => inferInstance
instance (a b : Wel) : Decidable (a = b) := decidable_of_iff _ wel_eq.symm
/-- The four cells of a context, the seven of an info, the three of a guest, the two of a welcome. -/
def ctxH (g : Hd) (ep : Nat) (t u : Hd) : Array Value := #[.slice g.A g.n g.c, .int .u64 (ep : Int), .slice t.A t.n t.c, .slice u.A u.n u.c]
def infV (g : Hd) (ep : Nat) (t u tg : Hd) (z : Int) (sg : Hd) : Array Value := #[.slice g.A g.n g.c, .int .u64 (ep : Int), .slice t.A t.n t.c, .slice u.A u.n u.c, .slice tg.A tg.n tg.c, .int .i64 z, .slice sg.A sg.n sg.c]
def thrV (a b c : Hd) : Array Value := #[.slice a.A a.n a.c, .slice b.A b.n b.c, .slice c.A c.n c.c]
def CtxC (B : Hd → List UInt8 → Prop) (cs : Array Value) (x : Ctx) : Prop := ∃ g t u, cs = ctxH g x.ep t u ∧ x.ep < 18446744073709551616 ∧ B g x.grp ∧ B t x.tree ∧ B u x.trans
def InfC (B : Hd → List UInt8 → Prop) (cs : Array Value) (x : Inf) : Prop :=
  ∃ g t u tg sg, cs = infV g x.ctx.ep t u tg x.frm sg ∧ x.ctx.ep < 18446744073709551616 ∧ (-9223372036854775808 ≤ x.frm ∧ x.frm ≤ 9223372036854775807) ∧ B g x.ctx.grp ∧ B t x.ctx.tree ∧ B u x.ctx.trans ∧ B tg x.tag ∧ B sg x.sig
def GstC (B : Hd → List UInt8 → Prop) (cs : Array Value) (x : Gst) : Prop := ∃ a b c, cs = thrV a b c ∧ B a x.ref ∧ B b x.enc ∧ B c x.box
def InfAt (w : World) (cs : Array Value) (x : Inf) : Prop := InfC (BsH w) cs x
def GstAt (w : World) (cs : Array Value) (x : Gst) : Prop := GstC (BsH w) cs x
def WelAt (w : World) (cs : Array Value) (x : Wel) : Prop := ∃ h0 h1, cs = twoV h0 h1 ∧ Els GstAt 3 w h0.A h0.n x.guests ∧ BsH w h1 x.info
section
variable {B B' : Hd → List UInt8 → Prop} {cs : Array Value} {w w' : World}
theorem CtxC.imp {x : Ctx} (h : CtxC B cs x) (f : ∀ h xs, B h xs → B' h xs) : CtxC B' cs x := by
  obtain ⟨g, t, u, e, he, a, b, c⟩ := h
  exact ⟨g, t, u, e, he, f _ _ a, f _ _ b, f _ _ c⟩
theorem InfC.imp {x : Inf} (h : InfC B cs x) (f : ∀ h xs, B h xs → B' h xs) : InfC B' cs x := by
  obtain ⟨g, t, u, tg, sg, e, he, hz, a, b, c, d, k⟩ := h
  exact ⟨g, t, u, tg, sg, e, he, hz, f _ _ a, f _ _ b, f _ _ c, f _ _ d, f _ _ k⟩
theorem GstC.imp {x : Gst} (h : GstC B cs x) (f : ∀ h xs, B h xs → B' h xs) : GstC B' cs x := by
  obtain ⟨a, b, c, e, h1, h2, h3⟩ := h
  exact ⟨a, b, c, e, f _ _ h1, f _ _ h2, f _ _ h3⟩
theorem CtxC.at {x : Ctx} (h : CtxC (BsH w) cs x) : CtxAt w cs x := by
  obtain ⟨g, t, u, e, he, a, b, c⟩ := h
  exact ⟨g.A, t.A, u.A, g.n, g.c, t.n, t.c, u.n, u.c, e, a, b, c⟩
theorem InfC.ctx {x : Inf} (h : InfC B cs x) : CtxC B ((cs.toList.drop 0).take 4).toArray x.ctx := by
  obtain ⟨g, t, u, tg, sg, rfl, he, hz, a, b, c, d, k⟩ := h
  exact ⟨g, t, u, rfl, he, a, b, c⟩
theorem InfAt.ext {x : Inf} (h : InfAt w cs x) (e : Ext w w') : InfAt w' cs x := InfC.imp h fun _ _ b => Bs.ext b e
theorem GstAt.ext {x : Gst} (h : GstAt w cs x) (e : Ext w w') : GstAt w' cs x := GstC.imp h fun _ _ b => Bs.ext b e
theorem WelAt.ext {x : Wel} (h : WelAt w cs x) (e : Ext w w') : WelAt w' cs x := by
  obtain ⟨h0, h1, rfl, a, b⟩ := h
  exact ⟨h0, h1, rfl, a.ext e fun _ _ h => GstAt.ext h e, Bs.ext b e⟩
end
def Gst.Fit (g : Gst) : Prop := g.ref.length ≤ 1000000 ∧ g.enc.length ≤ 1000000 ∧ g.box.length ≤ 1000000
def Wel.Fit (x : Wel) : Prop := x.guests.length ≤ 10000 ∧ (∀ g ∈ x.guests, g.Fit) ∧ x.info.length ≤ 1000000
/-! Their bytes. -/
namespace M20
/-! How they are read. -/
/-- What is handed back of bytes as a whole: what may be, or an error. -/
def wholeX {α : Type} (z : α) (p : α × St) (ok : Bool) : α × Nat := if endX p.2 ≠ 0 then (z, endX p.2) else if ok then (p.1, 0) else (z, 3)
def messOf (b : List UInt8) : Mess × Nat := wholeX Mess.zero (messX (.ok b)) (decide (okMsg (messX (.ok b)).1))
theorem good_err {c : Nat} (h : c ≠ 0) : Nd.Good (.error c) := fun d e => by injection e with e; subst e; exact h
theorem wholeX_zero {α : Type} {z : α} {p : α × St} {ok : Bool} (h : (wholeX z p ok).2 ≠ 0) : (wholeX z p ok).1 = z := by
  unfold wholeX at h ⊢
  by_cases h1 : endX p.2 ≠ 0
  · rw [if_pos h1]
  · rw [if_neg h1] at h ⊢
    cases ok with
    | false => rw [if_neg (by decide)]
    | true => rw [if_pos rfl] at h; exact absurd rfl h
end M20
end Go.Proofs.YtpgalbgonmclaaaGreat
