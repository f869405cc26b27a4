/- From a row's reading of a welcome or an info to the walk's word for it. No conditions beyond the row's own. -/
import Derived.Test.YtpgalbgonmclaaaGreatMsT
import Derived.Test.YtpgalbgonmclaaaGreatRowW
import Derived.Test.YtpgalbgonmclaaaGreatMsN
/- Infos, welcomes and a guest's secrets, plainly and in memory; what bytes of them are read as: there. No conditions: plain definitions and lemmas. -/
namespace Go.Proofs.YtpgalbgonmclaaaGreat
open Go.RowKit
open Nd Wire
structure Inf where
  ctx : Ctx
  tag : List UInt8
  frm : Int
  sig : List UInt8
structure Gst where
  ref : List UInt8
  enc : List UInt8
  box : List UInt8
structure Wel where
  guests : List Gst
  info : List UInt8
def Ctx.zero : Ctx := ⟨[], 0, [], []⟩
def Inf.zero : Inf := ⟨Ctx.zero, [], 0, []⟩
def Gst.zero : Gst := ⟨[], [], []⟩
def Wel.zero : Wel := ⟨[], []⟩
theorem inf_eq {a b : Inf} : a = b ↔ a.ctx = b.ctx ∧ a.tag = b.tag ∧ a.frm = b.frm ∧ a.sig = b.sig := by
  constructor
  · intro h; subst h; exact ⟨rfl, rfl, rfl, rfl⟩
  · rintro ⟨h1, h2, h3, h4⟩; cases a; cases b; simp_all
theorem gst_eq {a b : Gst} : a = b ↔ a.ref = b.ref ∧ a.enc = b.enc ∧ a.box = b.box := by
  constructor
  · intro h; subst h; exact ⟨rfl, rfl, rfl⟩
  · rintro ⟨h1, h2, h3⟩; cases a; cases b; simp_all
theorem wel_eq {a b : Wel} : a = b ↔ a.guests = b.guests ∧ a.info = b.info := by
  constructor
  · intro h; subst h; exact ⟨rfl, rfl⟩
  · rintro ⟨h1, h2⟩; cases a; cases b; simp_all
instance (a b : Inf) : Decidable (a = b) := decidable_of_iff _ inf_eq.symm
instance (a b : Gst) : Decidable (a = b) := decidable_of_iff _ gst_eq.symm
instance : DecidableEq Gst := fun a b => inferInstance
instance (a b : Wel) : Decidable (a = b) := decidable_of_iff _ wel_eq.symm
/-- The four cells of a context, the seven of an info, the three of a guest, the two of a welcome. -/
def ctxH (g : Hd) (ep : Nat) (t u : Hd) : Array Value := #[.slice g.A g.n g.c, .int .u64 (ep : Int), .slice t.A t.n t.c, .slice u.A u.n u.c]
def infV (g : Hd) (ep : Nat) (t u tg : Hd) (z : Int) (sg : Hd) : Array Value := #[.slice g.A g.n g.c, .int .u64 (ep : Int), .slice t.A t.n t.c, .slice u.A u.n u.c, .slice tg.A tg.n tg.c, .int .i64 z, .slice sg.A sg.n sg.c]
def thrV (a b c : Hd) : Array Value := #[.slice a.A a.n a.c, .slice b.A b.n b.c, .slice c.A c.n c.c]
def CtxC (B : Hd → List UInt8 → Prop) (cs : Array Value) (x : Ctx) : Prop := ∃ g t u, cs = ctxH g x.ep t u ∧ x.ep < 18446744073709551616 ∧ B g x.grp ∧ B t x.tree ∧ B u x.trans
def InfC (B : Hd → List UInt8 → Prop) (cs : Array Value) (x : Inf) : Prop :=
  ∃ g t u tg sg, cs = infV g x.ctx.ep t u tg x.frm sg ∧ x.ctx.ep < 18446744073709551616 ∧ (-9223372036854775808 ≤ x.frm ∧ x.frm ≤ 9223372036854775807) ∧ B g x.ctx.grp ∧ B t x.ctx.tree ∧ B u x.ctx.trans ∧ B tg x.tag ∧ B sg x.sig
def GstC (B : Hd → List UInt8 → Prop) (cs : Array Value) (x : Gst) : Prop := ∃ a b c, cs = thrV a b c ∧ B a x.ref ∧ B b x.enc ∧ B c x.box
def InfAt (w : World) (cs : Array Value) (x : Inf) : Prop := InfC (BsH w) cs x
def GstAt (w : World) (cs : Array Value) (x : Gst) : Prop := GstC (BsH w) cs x
def WelAt (w : World) (cs : Array Value) (x : Wel) : Prop := ∃ h0 h1, cs = twoV h0 h1 ∧ Els GstAt 3 w h0.A h0.n x.guests ∧ BsH w h1 x.info
section
variable {B B' : Hd → List UInt8 → Prop} {cs : Array Value} {w w' : World}
theorem CtxC.imp {x : Ctx} (h : CtxC B cs x) (f : ∀ h xs, B h xs → B' h xs) : CtxC B' cs x := by
  obtain ⟨g, t, u, e, he, a, b, c⟩ := h
  exact ⟨g, t, u, e, he, f _ _ a, f _ _ b, f _ _ c⟩
theorem InfC.imp {x : Inf} (h : InfC B cs x) (f : ∀ h xs, B h xs → B' h xs) : InfC B' cs x := by
  obtain ⟨g, t, u, tg, sg, e, he, hz, a, b, c, d, k⟩ := h
  exact ⟨g, t, u, tg, sg, e, he, hz, f _ _ a, f _ _ b, f _ _ c, f _ _ d, f _ _ k⟩
theorem GstC.imp {x : Gst} (h : GstC B cs x) (f : ∀ h xs, B h xs → B' h xs) : GstC B' cs x := by
  obtain ⟨a, b, c, e, h1, h2, h3⟩ := h
  exact ⟨a, b, c, e, f _ _ h1, f _ _ h2, f _ _ h3⟩
theorem CtxC.at {x : Ctx} (h : CtxC (BsH w) cs x) : CtxAt w cs x := by
  obtain ⟨g, t, u, e, he, a, b, c⟩ := h
  exact ⟨g.A, t.A, u.A, g.n, g.c, t.n, t.c, u.n, u.c, e, a, b, c⟩
theorem InfC.ctx {x : Inf} (h : InfC B cs x) : CtxC B ((cs.toList.drop 0).take 4).toArray x.ctx := by
  obtain ⟨g, t, u, tg, sg, rfl, he, hz, a, b, c, d, k⟩ := h
  exact ⟨g, t, u, rfl, he, a, b, c⟩
theorem InfAt.ext {x : Inf} (h : InfAt w cs x) (e : Ext w w') : InfAt w' cs x := InfC.imp h fun _ _ b => Bs.ext b e
theorem GstAt.ext {x : Gst} (h : GstAt w cs x) (e : Ext w w') : GstAt w' cs x := GstC.imp h fun _ _ b => Bs.ext b e
theorem WelAt.ext {x : Wel} (h : WelAt w cs x) (e : Ext w w') : WelAt w' cs x := by
  obtain ⟨h0, h1, rfl, a, b⟩ := h
  exact ⟨h0, h1, rfl, a.ext e fun _ _ h => GstAt.ext h e, Bs.ext b e⟩
end
def okGst (g : Gst) : Prop := g.ref.length = 32 ∧ g.enc.length = 32
instance (g : Gst) : Decidable (okGst g) := by unfold okGst; infer_instance
def okWel (x : Wel) : Prop := x.guests.length ≤ 64 ∧ ∀ g ∈ x.guests, okGst g
instance (x : Wel) : Decidable (okWel x) := by unfold okWel; infer_instance
def Inf.Small (i : Inf) : Prop := i.ctx.Small ∧ i.tag.length ≤ 100 ∧ i.sig.length ≤ 100
def Gst.Small (g : Gst) : Prop := g.ref.length ≤ 100 ∧ g.enc.length ≤ 100 ∧ g.box.length ≤ 200
instance (g : Gst) : Decidable g.Small := by unfold Gst.Small; infer_instance
def Gst.Fit (g : Gst) : Prop := g.ref.length ≤ 1000000 ∧ g.enc.length ≤ 1000000 ∧ g.box.length ≤ 1000000
def Wel.Small (x : Wel) : Prop := x.guests.length < 70 ∧ (∀ g ∈ x.guests, g.Small) ∧ x.info.length ≤ 500
instance (x : Wel) : Decidable x.Small := by unfold Wel.Small; infer_instance
def Wel.Fit (x : Wel) : Prop := x.guests.length ≤ 10000 ∧ (∀ g ∈ x.guests, g.Fit) ∧ x.info.length ≤ 1000000
theorem Gst.Small.fit {g : Gst} (h : g.Small) : g.Fit := by obtain ⟨h1, h2, h3⟩ := h; exact ⟨by omega, by omega, by omega⟩
theorem Wel.Small.fit {x : Wel} (h : x.Small) : x.Fit := ⟨by have := h.1; omega, fun g hg => (h.2.1 g hg).fit, by have := h.2.2; omega⟩
/-! Their bytes. -/
def gstB (g : Gst) : List UInt8 := vec g.ref ++ vec g.enc ++ vec g.box
def welB (x : Wel) : List UInt8 := be 2 1 ++ be 2 3 ++ be 2 1 ++ vec (x.guests.flatMap gstB) ++ vec x.info
namespace M20
/-! How they are read. -/
def gstX (s : St) : Gst × St := (⟨(vecX s).1, (vecX (vecX s).2).1, (vecX (vecX (vecX s).2).2).1⟩, (vecX (vecX (vecX s).2).2).2)
def welX (s : St) : Wel × St :=
  let l := eachX gstX (justX 2 1 (justX 2 3 (justX 2 1 s)))
  (⟨l.1, (vecX l.2).1⟩, (vecX l.2).2)
/-- What is handed back of bytes as a whole: what may be, or an error. -/
def wholeX {α : Type} (z : α) (p : α × St) (ok : Bool) : α × Nat := if endX p.2 ≠ 0 then (z, endX p.2) else if ok then (p.1, 0) else (z, 3)
def packOf (b : List UInt8) : Pack × Nat := wholeX Pack.zero (packX (.ok b)) (decide (okPack (packX (.ok b)).1))
def propOf (b : List UInt8) : Prop20 × Nat := wholeX Prop20.zero (propX (.ok b)) (decide (okProp (propX (.ok b)).1))
def comOf (b : List UInt8) : Com20 × Nat := wholeX Com20.zero (comX (.ok b)) (decide (okCom (comX (.ok b)).1))
def welOf (b : List UInt8) : Wel × Nat := wholeX Wel.zero (welX (.ok b)) (decide (okWel (welX (.ok b)).1))
theorem good_err {c : Nat} (h : c ≠ 0) : Nd.Good (.error c) := fun d e => by injection e with e; subst e; exact h
theorem good_just {k n : Nat} {s : St} (h : Nd.Good s) : Nd.Good (justX k n s) := by
  have h1 := good_num (s := s) k h
  unfold justX
  split
  · split
    · exact good_ok _
    · exact good_err (by omega)
  · rename_i c hc
    exact good_err (h1 c hc)
theorem good_flag {s : St} (h : Nd.Good s) : Nd.Good (flagX s).2 := by
  have h1 := good_num (s := s) 1 h
  unfold flagX
  split
  · split
    · exact good_err (by omega)
    · exact good_ok _
  · rename_i c hc
    exact good_err (h1 c hc)
theorem good_bad {s : St} (h : Nd.Good s) : Nd.Good (badX s) := by
  cases s with
  | error c => exact h
  | ok xs => exact good_err (by omega)
theorem good_leafX {s : St} (h : Nd.Good s) : Nd.Good (leafX s).2 := by
  have g4 : Nd.Good (lf4 s) := good_num 1 (good_vec (good_vec (good_vec h)))
  have gq : Nd.Good (leafQ s).2 := by
    refine good_vec ?_
    unfold leafP
    split
    · exact good_vec g4
    · exact g4
  unfold leafX
  split
  · exact g4
  · split
    · exact g4
    · split
      · exact gq
      · split <;> exact gq
theorem good_leafI {s : St} (h : Nd.Good s) : Nd.Good (leafI s).2 := by
  cases s with
  | error c => exact h
  | ok xs =>
    show Nd.Good (if (leafX (.ok xs)).1.2 ≠ 0 then (.error (leafX (.ok xs)).1.2 : St) else (leafX (.ok xs)).2)
    split
    · rename_i hz; exact good_err hz
    · exact good_leafX h
theorem good_pack {s : St} (h : Nd.Good s) : Nd.Good (packX s).2 := good_vec (good_leafI (good_vec (good_just (good_just h))))
theorem good_prop {s : St} (h : Nd.Good s) : Nd.Good (propX s).2 := by
  have h1 := good_num (s := s) 1 h
  unfold propX
  dsimp only
  split
  · exact good_pack h1
  · split
    · exact good_leafI h1
    · split
      · exact good_num 4 h1
      · exact good_bad h1
theorem good_item {s : St} (h : Nd.Good s) : Nd.Good (itemX s).2 := by
  have h1 := good_num (s := s) 1 h
  unfold itemX
  dsimp only
  split
  · exact good_prop h1
  · split
    · exact good_vec h1
    · exact good_bad h1
theorem good_eachN {α : Type} {f : St → α × St} (hf : ∀ s, Nd.Good s → Nd.Good (f s).2) : ∀ (n : Nat) (ys : List UInt8), Nd.Good (eachN f n ys).2
  | 0, ys => good_ok _
  | n + 1, [] => good_ok _
  | n + 1, y :: ys => by
    have h1 := hf _ (good_ok (y :: ys))
    have e : eachN f (n + 1) (y :: ys) = match (f (.ok (y :: ys))).2 with
      | .error c => ([(f (.ok (y :: ys))).1], .error c)
      | .ok r => ((f (.ok (y :: ys))).1 :: (eachN f n r).1, (eachN f n r).2) := rfl
    rw [e]
    cases hr : (f (.ok (y :: ys))).2 with
    | error c => exact good_err (h1 c hr)
    | ok r => exact good_eachN hf n r
theorem good_each {α : Type} {f : St → α × St} (hf : ∀ s, Nd.Good s → Nd.Good (f s).2) {s : St} (h : Nd.Good s) : Nd.Good (eachX f s).2 := by
  have h1 := good_vec h
  have h2 := good_eachN hf (vecX s).1.length (vecX s).1
  unfold eachX
  cases hv : (vecX s).2 with
  | error c => exact good_err (h1 c hv)
  | ok r =>
    dsimp only
    cases hE : (eachN f (vecX s).1.length (vecX s).1).2 with
    | error c => exact good_err (h2 c hE)
    | ok z => exact good_ok _
theorem good_bxd {s : St} (h : Nd.Good s) : Nd.Good (bxdX s).2 := good_vec (good_vec h)
theorem good_stp {s : St} (h : Nd.Good s) : Nd.Good (stpX s).2 := good_each (fun _ h => good_bxd h) (good_vec h)
theorem good_com {s : St} (h : Nd.Good s) : Nd.Good (comX s).2 := by
  have h1 := good_flag (good_each (fun _ h => good_item h) h)
  unfold comX
  dsimp only
  split
  · exact good_each (fun _ h => good_stp h) (good_leafI h1)
  · exact h1
theorem wholeX_ok {α : Type} {z : α} {p : α × St} {ok : Bool} (hg : Nd.Good p.2) (h : (wholeX z p ok).2 = 0) : p.2 = .ok [] ∧ ok = true ∧ (wholeX z p ok).1 = p.1 := by
  unfold wholeX at h ⊢
  by_cases h1 : endX p.2 ≠ 0
  · rw [if_pos h1] at h; exact absurd h h1
  · rw [if_neg h1] at h ⊢
    cases ok with
    | false => rw [if_neg (by decide)] at h; exact absurd h (show ¬ (3 : Nat) = 0 by omega)
    | true =>
      rw [if_pos rfl]
      refine ⟨?_, rfl, rfl⟩
      have h2 : endX p.2 = 0 := Classical.not_not.1 h1
      cases hp : p.2 with
      | error c => rw [hp] at h2; exact absurd h2 (hg c hp)
      | ok xs =>
        cases xs with
        | nil => rfl
        | cons a r => rw [hp] at h2; exact absurd h2 (show ¬ (5 : Nat) = 0 by omega)
theorem wholeX_zero {α : Type} {z : α} {p : α × St} {ok : Bool} (h : (wholeX z p ok).2 ≠ 0) : (wholeX z p ok).1 = z := by
  unfold wholeX at h ⊢
  by_cases h1 : endX p.2 ≠ 0
  · rw [if_pos h1]
  · rw [if_neg h1] at h ⊢
    cases ok with
    | false => rw [if_neg (by decide)]
    | true => rw [if_pos rfl] at h; exact absurd rfl h
theorem wholeX_there {α : Type} {z x : α} {ok : Bool} (h : ok = true) : wholeX z (x, .ok []) ok = (x, 0) := by
  subst h; rfl
theorem gstX_there (g : Gst) (h : g.Fit) (r : List UInt8) : gstX (.ok (gstB g ++ r)) = (g, .ok r) := by
  obtain ⟨h1, h2, h3⟩ := h
  unfold gstB gstX
  simp only [List.append_assoc, vecX_vec (v := g.ref) (by omega), vecX_vec (v := g.enc) (by omega), vecX_vec (v := g.box) (by omega)]
theorem gstB_pos (g : Gst) : 0 < (gstB g).length := by have := vec_pos g.ref; unfold gstB; simp only [List.length_append]; omega
theorem gstB_le {g : Gst} (h : g.Fit) : (gstB g).length ≤ 3000012 := by
  obtain ⟨h1, h2, h3⟩ := h
  have := vec_le g.ref; have := vec_le g.enc; have := vec_le g.box
  unfold gstB; simp only [List.length_append]; omega
theorem welX_there {x : Wel} (ok : okWel x) (hf : x.Fit) (r : List UInt8) : welX (.ok (welB x ++ r)) = (x, .ok r) := by
  have i1 := flatMap_le (l := x.guests) (f := gstB) (B := 3000012) fun g hg => gstB_le (hf.2.1 g hg)
  have i2 : x.guests.length * 3000012 ≤ 64 * 3000012 := Nat.mul_le_mul_right _ ok.1
  have i3 := hf.2.2
  unfold welB welX
  simp only [List.append_assoc, justX_be (k := 2) (n := 1) (by omega), justX_be (k := 2) (n := 3) (by omega), eachX_there (f := gstX) (g := gstB) (fun g hg => ⟨gstX_there g (hf.2.1 g hg), gstB_pos g⟩) (show (x.guests.flatMap gstB).length < 1073741824 by omega), vecX_vec (v := x.info) (by omega)]
end M20
end Go.Proofs.YtpgalbgonmclaaaGreat

namespace Go.Proofs.YtpgalbgonmclaaaGreat
open Go.ChangeShapes Go.WideShapes Go.ChangeAt Go.RowKit
section
variable {H : Type} {enc : TypeId × Value → H} {W : World} {base : Nat} {spare : Nat → Bool} {held : Bool}
theorem trod_guest {fuel : Nat} {cs : List Value} {x : DataW H × List MemPlace} (h : DataW.trod enc Tryz.prog W base spare held fuel 115 cs = some x) : ∃ p, GstAt W cs.toArray p := by
  obtain ⟨fuel', hl, hfs⟩ := trod_struct Tryz.underlying115 h
  have hc : Tryz.prog.cellsOf 115 = 3 := by kernel_rfl
  rw [hc] at hl
  have c0 : Tryz.prog.cellsOf 22 = 1 := by kernel_rfl
  have c1 : Tryz.prog.cellsOf 100 = 2 := by kernel_rfl
  obtain ⟨_, t0⟩ := hfs 0 _ rfl
  obtain ⟨_, t1⟩ := hfs 1 _ rfl
  obtain ⟨A0, n0, k0, r0, e0, b0, _⟩ := trod_bytes t0
  obtain ⟨b, f0, f1, e1, v0, v1⟩ := trod_boxed t1
  have e : cs.drop 0 = _ := one_of (o := 0) c0 e0
  rw [some_of (o := 1) c1 e1, end_of hl] at e
  refine ⟨⟨r0, b.enc, b.box⟩, ⟨A0, n0, k0⟩, f0, f1, ?_, b0, v0, v1⟩
  rw [show cs = _ from e]
  rfl
theorem trod_wel {fuel : Nat} {cs : List Value} {x : DataW H × List MemPlace} (h : DataW.trod enc Tryz.prog W base spare held fuel 63 cs = some x) : ∃ p, WelAt W cs.toArray p := by
  obtain ⟨fuel', hl, hfs⟩ := trod_struct Tryz.underlying63 h
  have hc : Tryz.prog.cellsOf 63 = 2 := by kernel_rfl
  rw [hc] at hl
  have c0 : Tryz.prog.cellsOf 22 = 1 := by kernel_rfl
  have c1 : Tryz.prog.cellsOf 61 = 1 := by kernel_rfl
  obtain ⟨_, t0⟩ := hfs 0 _ rfl
  obtain ⟨_, t1⟩ := hfs 1 _ rfl
  obtain ⟨A0, n0, k0, r0, e0, b0, _⟩ := trod_els (R := GstAt) (sz := 3) Tryz.underlying61 (by kernel_rfl) (fun _ _ _ h => trod_guest h) t0
  obtain ⟨A1, n1, k1, r1, e1, b1, _⟩ := trod_bytes t1
  have e : cs.drop 0 = _ := one_of (o := 0) c1 e0
  rw [one_of (o := 1) c0 e1, end_of hl] at e
  refine ⟨⟨r0, r1⟩, ⟨A0, n0, k0⟩, ⟨A1, n1, k1⟩, ?_, b0, b1⟩
  rw [show cs = _ from e]
  rfl
theorem open_wel {v : Value} {d : DataW H} {p : List MemPlace} (h : DataW.Trod enc Tryz.prog W base spare held 63 v d p) : ∃ cs x, v = .agg cs ∧ WelAt W cs x := by
  obtain ⟨fuel, hf⟩ := h
  obtain ⟨x, hx⟩ := trod_wel hf
  obtain ⟨_, hl, _⟩ := trod_struct Tryz.underlying63 hf
  exact ⟨_, x, agg_of rfl (by rw [hl]; decide +kernel), hx⟩
end
end Go.Proofs.YtpgalbgonmclaaaGreat
