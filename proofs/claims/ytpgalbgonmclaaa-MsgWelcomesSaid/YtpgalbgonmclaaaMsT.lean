/- What bytes of messages, infos, welcomes and secrets are read as, plainly: there, and back. No conditions: plain lemmas. -/
import Derived.Test.YtpgalbgonmclaaaMsM
import Derived.Test.YtpgalbgonmclaaaNdL
/- The bytes of messages: what msg tells, and what the reference hands back. -/
namespace Go.Proofs.Ytpgalbgonmclaaa
open Go.RowKit
attribute [local irreducible] Y Ef WL WC WK WQ WM OpM WN WF OpN WG OpG
open Nd Wire
instance (c : Ctx) : Decidable c.Small := by unfold Ctx.Small; infer_instance
section
variable {cs ds : Array Value} {m : Mess} {c : Ctx}
theorem Told.of {w : World} {ok : Prop} [Decidable ok] {xs : List UInt8} {A : Option Addr} {k d z : Nat} (T : decide ok = true → z = 0 ∧ Bs w A k xs ∧ k ≤ d) (N : decide ok = false → z = 3 ∧ A = none ∧ k = 0 ∧ d = 0) : Told w ok xs A k z ∧ k ≤ d :=
  ⟨⟨fun o => ⟨(T (decide_eq_true o)).1, (T (decide_eq_true o)).2.1⟩, fun o => ⟨(N (decide_eq_false o)).1, (N (decide_eq_false o)).2.2.1⟩⟩, by
    by_cases o : ok
    · exact (T (decide_eq_true o)).2.2
    · have h := N (decide_eq_false o); omega⟩
/-! The reference. -/
end
end Go.Proofs.Ytpgalbgonmclaaa

/- Packages, proposals, commits and messages held against each other: what the reference answers. -/
namespace Go.Proofs.Ytpgalbgonmclaaa
open Go.RowKit
attribute [local irreducible] Y Ef WL WC WK WQ WM OpM WN WF OpN WG OpG
open Nd Wire
theorem pack_eq {a b : Pack} : a = b ↔ a.init = b.init ∧ a.leaf = b.leaf ∧ a.sig = b.sig := by
  constructor
  · rintro rfl; simp
  · cases a; cases b; simp_all
instance (a b : Pack) : Decidable (a = b) := decidable_of_iff _ pack_eq.symm
theorem prop_eq {a b : Prop20} : a = b ↔ a.kind = b.kind ∧ a.pack = b.pack ∧ a.leaf = b.leaf ∧ a.at_ = b.at_ := by
  constructor
  · rintro rfl; simp
  · cases a; cases b; simp_all
instance (a b : Prop20) : Decidable (a = b) := decidable_of_iff _ prop_eq.symm
theorem bxd_eq {a b : Bxd} : a = b ↔ a.enc = b.enc ∧ a.box = b.box := by
  constructor
  · rintro rfl; simp
  · cases a; cases b; simp_all
instance : DecidableEq Bxd := fun a b => decidable_of_iff _ bxd_eq.symm
theorem stp_eq {a b : Stp} : a = b ↔ a.box = b.box ∧ a.to = b.to := by
  constructor
  · rintro rfl; simp
  · cases a; cases b; simp_all
instance : DecidableEq Stp := fun a b => decidable_of_iff _ stp_eq.symm
theorem item_eq {a b : Item20} : a = b ↔ a.ref = b.ref ∧ a.prop = b.prop := by
  constructor
  · rintro rfl; simp
  · cases a; cases b; simp_all
instance : DecidableEq Item20 := fun a b => decidable_of_iff _ item_eq.symm
theorem com_eq {a b : Com20} : a = b ↔ a.items = b.items ∧ a.has = b.has ∧ a.way.leaf = b.way.leaf ∧ a.way.steps = b.way.steps := by
  constructor
  · rintro rfl; simp
  · obtain ⟨i, h, l, s⟩ := a
    obtain ⟨i', h', l', s'⟩ := b
    rintro ⟨h1, h2, h3, h4⟩
    simp only at h1 h2 h3 h4
    subst h1; subst h2; subst h3; subst h4; rfl
instance (a b : Com20) : Decidable (a = b) := decidable_of_iff _ com_eq.symm
def Ctx.Fit (c : Ctx) : Prop := c.grp.length ≤ 1000000 ∧ c.tree.length ≤ 1000000 ∧ c.trans.length ≤ 1000000
theorem Ctx.Small.fit {c : Ctx} (h : c.Small) : c.Fit := ⟨by have := h.1; omega, by have := h.2.1; omega, by have := h.2.2.1; omega⟩
def sameCont (a b : Mess) : Prop := a.group = b.group ∧ a.epoch = b.epoch ∧ a.frm = b.frm ∧ a.kind = b.kind ∧ a.prop = b.prop ∧ a.com = b.com
instance (a b : Mess) : Decidable (sameCont a b) := by unfold sameCont; infer_instance
theorem mess_eq {a b : Mess} : a = b ↔ sameCont a b ∧ a.sig = b.sig ∧ a.tag = b.tag ∧ a.member = b.member := by
  unfold sameCont
  constructor
  · rintro rfl; simp
  · cases a; cases b; simp_all
instance (a b : Mess) : Decidable (a = b) := decidable_of_iff _ mess_eq.symm
theorem ctx_eq {a b : Ctx} : a = b ↔ a.grp = b.grp ∧ a.ep = b.ep ∧ a.tree = b.tree ∧ a.trans = b.trans := by
  constructor
  · rintro rfl; simp
  · cases a; cases b; simp_all
instance (a b : Ctx) : Decidable (a = b) := decidable_of_iff _ ctx_eq.symm
theorem take_eq_snoc {α : Type} {xs ys : List α} {i : Nat} {x y : α} (hx : xs[i]? = some x) (hy : ys[i]? = some y) (h : xs.take i = ys.take i) (e : x = y) : xs.take (i + 1) = ys.take (i + 1) := by
  rw [take_snoc hx, take_snoc hy, h, e]
theorem eq_of_take {α : Type} {xs ys : List α} {i : Nat} (h : xs.take i = ys.take i) (hx : xs.length ≤ i) (hy : ys.length ≤ i) : xs = ys := by
  rwa [List.take_of_length_le hx, List.take_of_length_le hy] at h
theorem at_eq {α : Type} {xs ys : List α} {i : Nat} {x y : α} (hx : xs[i]? = some x) (hy : ys[i]? = some y) (h : xs = ys) : x = y := by
  subst h; rw [hx] at hy; injection hy
section
variable {cs ds : Array Value}
end
end Go.Proofs.Ytpgalbgonmclaaa

/- What bytes of packages, proposals, commits and messages are read as, plainly: there and back. No conditions: plain lemmas. -/
namespace Go.Proofs.Ytpgalbgonmclaaa
open Go.RowKit
namespace M20
open Wire Nd
/-! Each thing in its turn. -/
def justX (k n : Nat) (s : St) : St := match (numX k s).2 with
  | .ok r => if (numX k s).1 = n then .ok r else .error 3
  | .error c => .error c
def flagX (s : St) : Bool × St := match (numX 1 s).2 with
  | .ok r => if 1 < (numX 1 s).1 then (false, .error 3) else (decide ((numX 1 s).1 = 1), .ok r)
  | .error c => (false, .error c)
/-- What is in a vector, one behind the other. -/
def eachN {α : Type} (f : St → α × St) : Nat → List UInt8 → List α × St
  | 0, ys => ([], .ok ys)
  | _ + 1, [] => ([], .ok [])
  | n + 1, y :: ys => match (f (.ok (y :: ys))).2 with
    | .error c => ([(f (.ok (y :: ys))).1], .error c)
    | .ok r => ((f (.ok (y :: ys))).1 :: (eachN f n r).1, (eachN f n r).2)
def eachX {α : Type} (f : St → α × St) (s : St) : List α × St := match (vecX s).2 with
  | .error c => ([], .error c)
  | .ok r => ((eachN f ((vecX s).1.length) (vecX s).1).1, match (eachN f ((vecX s).1.length) (vecX s).1).2 with
    | .error c => .error c
    | .ok _ => .ok r)
/-! There. -/
end M20
end Go.Proofs.Ytpgalbgonmclaaa

/- What is signed tells what is meant; the law MsgApart. -/
namespace Go.Proofs.Ytpgalbgonmclaaa
open Go.RowKit
attribute [local irreducible] Y Ef WL WC WK WQ WM OpM WN WF OpN WG OpG
namespace M20
open Wire Nd
end M20
open M20
theorem Told.code {w : World} {ok : Prop} {xs : List UInt8} {A : Option Addr} {k z : Nat} (h : Told w ok xs A k z) : (z = 0 ↔ ok) ∧ (z = 0 ∨ z = 3) := by
  by_cases o : ok
  · have := (h.1 o).1; exact ⟨⟨fun _ => o, fun _ => this⟩, .inl this⟩
  · have := (h.2 o).1; exact ⟨⟨fun e => by omega, fun e => absurd e o⟩, .inr this⟩
theorem MsgAt.ep {w : World} {cs : Array Value} {m : Mess} (h : MsgAt w cs m) : m.epoch < 18446744073709551616 := by
  obtain ⟨gr, i, h0, h1, h2, s, h4, h5, g, l0, l1, l2, t, l4, l5, it, c0, c1, c2, q, c4, c5, ct, sg, tg, mb, _, a, _⟩ := h
  exact a
end Go.Proofs.Ytpgalbgonmclaaa

namespace Go.Proofs.Ytpgalbgonmclaaa
open Go.RowKit
namespace M20
open Wire Nd
/-! Back: what is read stands there. -/
def thenX (r : List UInt8) : St → St
  | .ok _ => .ok r
  | .error c => .error c
theorem eachX_no {α : Type} {f : St → α × St} {s : St} {c : Nat} (h : (vecX s).2 = .error c) : eachX f s = ([], .error c) := by unfold eachX; rw [h]
theorem eachX_yes {α : Type} {f : St → α × St} {s : St} {r : List UInt8} (h : (vecX s).2 = .ok r) : eachX f s = ((eachN f (vecX s).1.length (vecX s).1).1, thenX r (eachN f (vecX s).1.length (vecX s).1).2) := by
  unfold eachX; rw [h]
  dsimp only
  cases (eachN f (vecX s).1.length (vecX s).1).2 <;> rfl
theorem st_cases (t : St) : (∃ c, t = .error c) ∨ ∃ q, t = .ok q := by
  cases t with
  | error c => exact .inl ⟨c, rfl⟩
  | ok q => exact .inr ⟨q, rfl⟩
/-! Messages. -/
end M20
end Go.Proofs.Ytpgalbgonmclaaa
