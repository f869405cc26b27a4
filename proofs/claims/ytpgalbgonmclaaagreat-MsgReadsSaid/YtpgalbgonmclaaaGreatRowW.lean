/- Rows of structs that a call owns: what is appended, what is kept, and what each element is. No conditions: plain lemmas of the model. -/
import Derived.Test.YtpgalbgonmclaaaGreatMsP
import Derived.Test.YtpgalbgonmclaaaGreatNdL
import Derived.Test.YtpgalbgonmclaaaGreatMsN
import Derived.Test.YtpgalbgonmclaaaGreatVk
import Derived.Test.YtpgalbgonmclaaaGreatMsH
/- What bytes of packages, proposals, commits and messages are read as, plainly: there and back. No conditions: plain lemmas. -/
namespace Go.Proofs.YtpgalbgonmclaaaGreat
open Go.RowKit
namespace M20
open Wire Nd
/-! Each thing in its turn. -/
def badX : St → St
  | .ok _ => .error 3
  | .error c => .error c
def justX (k n : Nat) (s : St) : St := match (numX k s).2 with
  | .ok r => if (numX k s).1 = n then .ok r else .error 3
  | .error c => .error c
def flagX (s : St) : Bool × St := match (numX 1 s).2 with
  | .ok r => if 1 < (numX 1 s).1 then (false, .error 3) else (decide ((numX 1 s).1 = 1), .ok r)
  | .error c => (false, .error c)
def leafI : St → Leaf × St
  | .ok xs => ((leafX (.ok xs)).1.1, if (leafX (.ok xs)).1.2 ≠ 0 then .error (leafX (.ok xs)).1.2 else (leafX (.ok xs)).2)
  | .error c => (Leaf.zero, .error c)
def packX (s : St) : Pack × St :=
  let i := vecX (justX 2 1 (justX 2 1 s))
  let l := leafI i.2
  let g := vecX l.2
  (⟨i.1, l.1, g.1⟩, g.2)
def propX (s : St) : Prop20 × St :=
  let k := numX 1 s
  if k.1 = 1 then (⟨1, (packX k.2).1, Leaf.zero, 0⟩, (packX k.2).2)
  else if k.1 = 2 then (⟨2, Pack.zero, (leafI k.2).1, 0⟩, (leafI k.2).2)
  else if k.1 = 3 then (⟨3, Pack.zero, Leaf.zero, ((numX 4 k.2).1 : Int)⟩, (numX 4 k.2).2)
  else (⟨k.1, Pack.zero, Leaf.zero, 0⟩, badX k.2)
def itemX (s : St) : Item20 × St :=
  let k := numX 1 s
  if k.1 = 1 then (⟨[], (propX k.2).1⟩, (propX k.2).2)
  else if k.1 = 2 then (⟨(vecX k.2).1, Prop20.zero⟩, (vecX k.2).2)
  else (⟨[], Prop20.zero⟩, badX k.2)
/-- What is in a vector, one behind the other. -/
def eachN {α : Type} (f : St → α × St) : Nat → List UInt8 → List α × St
  | 0, ys => ([], .ok ys)
  | _ + 1, [] => ([], .ok [])
  | n + 1, y :: ys => match (f (.ok (y :: ys))).2 with
    | .error c => ([(f (.ok (y :: ys))).1], .error c)
    | .ok r => ((f (.ok (y :: ys))).1 :: (eachN f n r).1, (eachN f n r).2)
def eachX {α : Type} (f : St → α × St) (s : St) : List α × St := match (vecX s).2 with
  | .error c => ([], .error c)
  | .ok r => ((eachN f ((vecX s).1.length) (vecX s).1).1, match (eachN f ((vecX s).1.length) (vecX s).1).2 with
    | .error c => .error c
    | .ok _ => .ok r)
def bxdX (s : St) : Bxd × St := (⟨(vecX s).1, (vecX (vecX s).2).1⟩, (vecX (vecX s).2).2)
def stpX (s : St) : Stp × St := (⟨(vecX s).1, (eachX bxdX (vecX s).2).1⟩, (eachX bxdX (vecX s).2).2)
def comX (s : St) : Com20 × St :=
  let i := eachX itemX s
  let h := flagX i.2
  if h.1 then (⟨i.1, true, ⟨(leafI h.2).1, (eachX stpX (leafI h.2).2).1⟩⟩, (eachX stpX (leafI h.2).2).2)
  else (⟨i.1, false, Way20.zero⟩, h.2)
/-! There. -/
end M20
end Go.Proofs.YtpgalbgonmclaaaGreat

/- What is signed tells what is meant; the law MsgApart. -/
namespace Go.Proofs.YtpgalbgonmclaaaGreat
open Go.RowKit
attribute [local irreducible] Y Ef WL WC WK WQ WM OpM WN WF OpN
namespace M20
open Wire Nd
/-- What a message frames, as it is read. -/
def frmX (s : St) : Mess × St :=
  let g := vecX s
  let e := numX 8 g.2
  let f := numX 4 (justX 1 1 e.2)
  let k := numX 1 f.2
  if k.1 = 2 then (⟨g.1, e.1, (f.1 : Int), 2, (propX k.2).1, Com20.zero, [], [], []⟩, (propX k.2).2)
  else if k.1 = 3 then (⟨g.1, e.1, (f.1 : Int), 3, Prop20.zero, (comX k.2).1, [], [], []⟩, (comX k.2).2)
  else (⟨g.1, e.1, (f.1 : Int), k.1, Prop20.zero, Com20.zero, [], [], []⟩, badX k.2)
end M20
open M20
theorem Told.code {w : World} {ok : Prop} {xs : List UInt8} {A : Option Addr} {k z : Nat} (h : Told w ok xs A k z) : (z = 0 ↔ ok) ∧ (z = 0 ∨ z = 3) := by
  by_cases o : ok
  · have := (h.1 o).1; exact ⟨⟨fun _ => o, fun _ => this⟩, .inl this⟩
  · have := (h.2 o).1; exact ⟨⟨fun e => by omega, fun e => absurd e o⟩, .inr this⟩
theorem MsgAt.ep {w : World} {cs : Array Value} {m : Mess} (h : MsgAt w cs m) : m.epoch < 18446744073709551616 := by
  obtain ⟨gr, i, h0, h1, h2, s, h4, h5, g, l0, l1, l2, t, l4, l5, it, c0, c1, c2, q, c4, c5, ct, sg, tg, mb, _, a, _⟩ := h
  exact a
end Go.Proofs.YtpgalbgonmclaaaGreat

/- What bytes of messages, infos, welcomes and secrets are read as, plainly: there, and back. No conditions: plain lemmas. -/
namespace Go.Proofs.YtpgalbgonmclaaaGreat
open Go.RowKit
namespace M20
open Wire Nd
/-! Back: what is read stands there. -/
def thenX (r : List UInt8) : St → St
  | .ok _ => .ok r
  | .error c => .error c
theorem eachX_no {α : Type} {f : St → α × St} {s : St} {c : Nat} (h : (vecX s).2 = .error c) : eachX f s = ([], .error c) := by unfold eachX; rw [h]
theorem eachX_yes {α : Type} {f : St → α × St} {s : St} {r : List UInt8} (h : (vecX s).2 = .ok r) : eachX f s = ((eachN f (vecX s).1.length (vecX s).1).1, thenX r (eachN f (vecX s).1.length (vecX s).1).2) := by
  unfold eachX; rw [h]
  dsimp only
  cases (eachN f (vecX s).1.length (vecX s).1).2 <;> rfl
theorem thenX_ok {q r : List UInt8} {t : St} (h : thenX q t = .ok r) : ∃ z, t = .ok z ∧ q = r := by
  cases t with
  | error c => cases h
  | ok z => injection h with h; exact ⟨z, rfl, h⟩
theorem st_cases (t : St) : (∃ c, t = .error c) ∨ ∃ q, t = .ok q := by
  cases t with
  | error c => exact .inl ⟨c, rfl⟩
  | ok q => exact .inr ⟨q, rfl⟩
/-! Messages. -/
def messX (s : St) : Mess × St :=
  let b := frmX (justX 2 1 (justX 2 1 s))
  let g := vecX b.2
  let t := if b.1.kind = 3 then vecX g.2 else ([], g.2)
  let m := vecX t.2
  (⟨b.1.group, b.1.epoch, b.1.frm, b.1.kind, b.1.prop, b.1.com, g.1, t.1, m.1⟩, m.2)
end M20
end Go.Proofs.YtpgalbgonmclaaaGreat

namespace Go.Proofs.YtpgalbgonmclaaaGreat
open Go.RowKit
/-- A row whose elements have sz cells. -/
def RowW (w : World) (base : Nat) (e : TypeId) (sz : Nat) (A : Option Addr) (n c : Nat) (xs : List Value) : Prop := w.ownsRow base e sz (.slice A n c) n xs
section
variable {w w' : World} {base : Nat} {e : TypeId} {sz : Nat} {A : Option Addr} {n c m : Nat} {xs : List Value} {S : List Nat}
theorem RowW.empty (w : World) (base : Nat) (e : TypeId) (sz : Nat) : RowW w base e sz none 0 0 [] := ⟨by simp, .inl ⟨rfl, rfl⟩⟩
theorem RowW.len (h : RowW w base e sz A n c xs) : xs.length = n * sz := h.1
theorem RowW.cap (h : RowW w base e sz A n c xs) : n ≤ c := by
  rcases h.2 with ⟨hv, rfl⟩ | ⟨g, cap, cur, hv, _, _, hc, _⟩
  · omega
  · injection hv with _ _ hv; omega
theorem RowW.at (h : RowW w base e sz A n c xs) : At w A xs := by
  have h0 := h
  rcases h.2 with ⟨hv, rfl⟩ | ⟨g, cap, cur, hv, _⟩
  · have := h.1
    exact .inl (List.eq_nil_of_length_eq_zero (by omega))
  · injection hv with hA
    subst hA
    exact At.of_add (World.ownsRow.cells h0 rfl)
theorem RowW.lt {g o : Nat} (h : RowW w base e sz (some ⟨g, o, none⟩) n c xs) : base ≤ g ∧ g < w.heap.size := World.ownsRow.lt h g rfl
theorem RowW.lower (h : RowW w base e sz A n c xs) {b : Nat} (hb : b ≤ base) : RowW w b e sz A n c xs := by
  refine ⟨h.1, ?_⟩
  rcases h.2 with h | ⟨g, cap, cur, hv, hg, r⟩
  · exact .inl h
  · exact .inr ⟨g, cap, cur, hv, by omega, r⟩
theorem RowW.kp (h : RowW w base e sz A n c xs) (hS : ∀ g ∈ S, g < base) : Kp w.heap.size S (fun w => RowW w base e sz A n c xs) w := by
  refine ⟨Nat.le_refl _, fun w2 hw => ⟨h.1, ?_⟩⟩
  rcases h.2 with h0 | ⟨g, cap, cur, hv, hg, hb, r⟩
  · exact .inl h0
  · have hlt : g < w.heap.size := (Array.getElem?_eq_some_iff.1 hb).1
    exact .inr ⟨g, cap, cur, hv, hg, (hw g hlt fun hm => by have := hS g hm; omega).trans hb, r⟩
theorem RowW.chs (h : RowW w base e sz A n c xs) (k : Chs S w w') (hS : ∀ g ∈ S, g < base := by first | (simp; done) | (simp; omega)) : RowW w' base e sz A n c xs := ((h.kp hS).chs k (fun _ h => h)).out
theorem RowW.ext (h : RowW w base e sz A n c xs) (k : Ext w w') : RowW w' base e sz A n c xs := h.chs (S := []) (Chs.of k [])
theorem RowW.ownGe (h : RowW w base e sz A n c xs) : ∀ g ∈ (Value.slice A m c).ownBlock.toList, base ≤ g ∧ g < w.heap.size := by
  intro g hg
  have h0 := h
  rcases h.2 with ⟨hv, _⟩ | ⟨g', cap, cur, hv, hb, hk, _⟩
  · injection hv with hA; subst hA; simp [Value.ownBlock] at hg
  · injection hv with hA; subst hA
    simp only [Value.ownBlock, Option.toList_some, List.mem_singleton] at hg
    subst hg
    exact ⟨hb, (Array.getElem?_eq_some_iff.1 hk).1⟩
theorem RowW.congr {ys : List Value} {n' : Nat} (h : RowW w base e sz A n c xs) (hn : n = n') (hx : xs = ys) : RowW w base e sz A n' c ys := by subst hn; subst hx; exact h
end
/-- An element type of sz cells: what the tables say of it. -/
structure EltW (P : Program) (t e : TypeId) (sz bytes : Nat) : Prop where
  ht : P.underlying t = some (.slice e)
  pos : 0 < sz
  row : ∃ (i : TypeInfo) (z : Value), P.info? e = some i ∧ i.zero = some z ∧ i.size = sz ∧ i.bytes = bytes ∧ z.cells.size = sz
theorem EltW.of {P : Program} {t e : TypeId} {z : Value} {sz bytes : Nat} (ht : P.underlying t = some (.slice e)) (h : (P.info? e).map (fun i => (i.zero, i.size, i.bytes)) = some (some z, sz, bytes)) (hz : z.cells.size = sz) (hp : 0 < sz) : EltW P t e sz bytes := by
  obtain ⟨i, h1, h2, h3, h4⟩ := info_parts h
  exact ⟨ht, hp, i, z, h1, h2, h3, h4, hz⟩
/-- 'append(s, x)', s a row of structs that the call owns, x one element. -/
def ApdW (w : World) (base : Nat) (e : TypeId) (sz : Nat) (A : Option Addr) (n c : Nat) (xs : List Value) (v : Value) (w' : World) : Prop :=
  ∃ A' c', v = .slice A' (n + 1) c' ∧ RowW w' base e sz A' (n + 1) c' xs ∧ w.grownBy w' (Value.slice A n c).ownBlock ∧ ((Value.slice A' (n + 1) c').ownBlock = (Value.slice A n c).ownBlock ∨ (Value.slice A' (n + 1) c').ownBlock = some w.heap.size)
section
variable {P : Program} {L : List (Nat × Value)} {w : World} {ty t e : TypeId} {x y : Operand}
theorem ef_appW {A : Option Addr} {n c g c2 base bytes sz : Nat} {xs : List Value} {cs : Array Value} {t2 : TypeId} (hx : ev L x = some (.slice A n c)) (hy : ev L y = some (.slice (some ⟨g, 0, none⟩) 1 c2)) (hE : EltW P t e sz bytes) (hown : RowW w base e sz A n c xs) (hB : Blk w g t2 cs) (hl : cs.size = sz) (h1 : cs.all (·.oneCell') = true)
    (hlen : (n + 1) * bytes ≤ 140737488355328) (h63 : n + 1 ≤ 140737488355328) (hbase : base ≤ w.heap.size) : Ef P L w (.call { callee := .builtin .append, args := #[x, y], argTypes := #[t, t] }) ty (ApdW w base e sz A n c (xs ++ cs.toList)) := Ef.run fun ρ hρ => by
  obtain ⟨ht, hp, i, z, hi, hz, hs, hb, hzs⟩ := hE
  have hnews : ∀ j u, cs.toList[j]? = some u → w.cell? ((⟨g, 0, none⟩ : Addr).add j) = some u := fun j u hu => by
    rw [Addr.add_plain, Nat.zero_add]; exact hB.get (by simpa using hu)
  obtain ⟨v', w', hrun, h2, h3, _, h5⟩ := run_append_own_at (P := P) w base t ty e i z sz bytes ht hi hz hs hb hzs hp (.slice A n c) n xs hown ⟨g, 0, none⟩ 1 c2 cs.toList (by simp [hl]) hnews (fun u hu => by have := Array.all_eq_true'.1 h1 u (by simpa using hu); exact this) (by unfold maxLen; omega) hlen hbase
  obtain ⟨g', cap', rfl, _, _⟩ := h2.form (by omega)
  exact ⟨_, w', ⟨_, _, rfl, h2, h3, h5⟩, fun _ _ _ _ => by simp [execOp, resolve, invoke, builtin, hρ _ _ hx, hρ _ _ hy, hrun]⟩
end
section
variable {N : Nat} {S S' : List Nat} {Φ Ψ : World → Prop} {w w' : World} {o o' : Option Nat}
theorem Kp.bump (h : Kp N S Φ w) {M : Nat} (h1 : N ≤ M) (h2 : M ≤ w.heap.size) : Kp M S Φ w := ⟨h2, fun w2 hw => h.2 w2 fun k hk hn => hw k (by omega) hn⟩
theorem Kp.and (h : Kp N S Φ w) (k : Kp N S Ψ w) : Kp N S (fun w => Φ w ∧ Ψ w) w := ⟨h.1, fun w2 hw => ⟨h.2 w2 hw, k.2 w2 hw⟩⟩
theorem Kp.all {α : Type} {Φ : α → World → Prop} (hN : N ≤ w.heap.size) (h : ∀ x, Kp N S (Φ x) w) : Kp N S (fun w => ∀ x, Φ x w) w := ⟨hN, fun w2 hw x => (h x).2 w2 hw⟩
/-- Behind an append: the row's own block may be another one, made now. -/
theorem Kp.ownS (h : Kp N (o.toList ++ S) Φ w) (gr : w.grownBy w' o) (hgl : o' = o ∨ o' = some w.heap.size) : Kp N (o'.toList ++ S) Φ w' := by
  have h1 : Kp N (o.toList ++ S) Φ w' := h.chs (Chs.own' gr) (fun _ h => List.mem_append_left _ h)
  rcases hgl with rfl | rfl
  · exact h1
  · refine ⟨h1.1, fun w2 hw => h1.2 w2 fun k hk hn => hw k hk ?_⟩
    have h2 := h.1
    simp only [List.mem_append, not_or] at hn
    simp only [Option.toList_some, List.mem_append, List.mem_singleton, not_or]
    exact ⟨by omega, hn.2⟩
end
/-- A row of structs that is being made: its elements are as R says, whatever becomes of the row's own block and of the blocks of S. -/
def ElsK {α : Type} (R : World → Array Value → α → Prop) (sz : Nat) (e : TypeId) (base N : Nat) (S : List Nat) (w : World) (A : Option Addr) (n c : Nat) (zs : List α) : Prop :=
  zs.length = n ∧ ∃ vals, RowW w base e sz A n c vals ∧ ∀ i x, zs[i]? = some x → Kp N ((Value.slice A n c).ownBlock.toList ++ S) (fun w => R w ((vals.drop (i * sz)).take sz).toArray x) w
section
variable {α : Type} {R : World → Array Value → α → Prop} {sz : Nat} {e : TypeId} {base N : Nat} {S S' : List Nat} {w w' : World} {A : Option Addr} {n c : Nat} {zs : List α}
theorem ElsK.empty (R : World → Array Value → α → Prop) (sz : Nat) (e : TypeId) (base N : Nat) (S : List Nat) (w : World) : ElsK R sz e base N S w none 0 0 [] := ⟨rfl, [], RowW.empty _ _ _ _, fun i x hx => by simp at hx⟩
theorem ElsK.row (h : ElsK R sz e base N S w A n c zs) : ∃ vals, RowW w base e sz A n c vals := by obtain ⟨_, vals, h, _⟩ := h; exact ⟨vals, h⟩
theorem ElsK.bump (h : ElsK R sz e base N S w A n c zs) {M : Nat} (h1 : N ≤ M) (h2 : M ≤ w.heap.size) : ElsK R sz e base M S w A n c zs := by
  obtain ⟨hl, vals, hr, hk⟩ := h
  exact ⟨hl, vals, hr, fun i x hx => (hk i x hx).bump h1 h2⟩
theorem ElsK.chs (h : ElsK R sz e base N S w A n c zs) (k : Chs S' w w') (hs : ∀ k ∈ S', k ∈ S := by first | (simp; done) | (simp; assumption)) (hb : ∀ g ∈ S', g < base := by first | (simp; done) | (simp; omega)) : ElsK R sz e base N S w' A n c zs := by
  obtain ⟨hl, vals, hr, hk⟩ := h
  exact ⟨hl, vals, hr.chs k hb, fun i x hx => (hk i x hx).chs k fun g hg => List.mem_append_right _ (hs g hg)⟩
theorem ElsK.ext (h : ElsK R sz e base N S w A n c zs) (k : Ext w w') : ElsK R sz e base N S w' A n c zs := h.chs (S' := []) (Chs.of k []) (by simp) (by simp)
theorem ElsK.grow {k : Nat} (h : ElsK R sz e base N S w A n c zs) (E : Ext w w') (_ : w.heap.size ≤ k) : ElsK R sz e base N S w' A n c zs := h.ext E
/-- One more element. -/
theorem ElsK.app {A' : Option Addr} {c' : Nat} {cs : Array Value} {x : α} {vals : List Value} (hl : zs.length = n) (hr : RowW w base e sz A n c vals) (hk : ∀ i x, zs[i]? = some x → Kp N ((Value.slice A n c).ownBlock.toList ++ S) (fun w => R w ((vals.drop (i * sz)).take sz).toArray x) w) (hx : Kp N ((Value.slice A n c).ownBlock.toList ++ S) (fun w => R w cs x) w) (hz : cs.size = sz)
    (hr' : RowW w' base e sz A' (n + 1) c' (vals ++ cs.toList)) (gr : w.grownBy w' (Value.slice A n c).ownBlock) (hgl : (Value.slice A' (n + 1) c').ownBlock = (Value.slice A n c).ownBlock ∨ (Value.slice A' (n + 1) c').ownBlock = some w.heap.size) : ElsK R sz e base N S w' A' (n + 1) c' (zs ++ [x]) := by
  have hvl := hr.len
  refine ⟨by simp [hl], _, hr', fun i y hy => ?_⟩
  rcases Nat.lt_or_ge i n with hi | hi
  · rw [List.getElem?_append_left (by omega)] at hy
    have h1 := (hk i y hy).ownS gr hgl
    have hm : (i + 1) * sz ≤ n * sz := Nat.mul_le_mul_right sz (by omega)
    rw [Nat.add_mul, Nat.one_mul] at hm
    have e1 : ((vals ++ cs.toList).drop (i * sz)).take sz = (vals.drop (i * sz)).take sz := by
      rw [List.drop_append_of_le_length (by omega), List.take_append_of_le_length (by rw [List.length_drop]; omega)]
    rw [e1]; exact h1
  · rw [List.getElem?_append_right (by omega)] at hy
    have hi0 : i - zs.length = 0 := by
      rcases Nat.eq_zero_or_pos (i - zs.length) with h | h
      · exact h
      · rw [List.getElem?_eq_none (by simp; omega)] at hy; cases hy
    rw [hi0] at hy
    injection hy with hy
    subst hy
    obtain rfl : i = n := by omega
    have e1 : ((vals ++ cs.toList).drop (i * sz)).take sz = cs.toList := by
      rw [← hvl, List.drop_left, List.take_of_length_le (by simp [hz])]
    rw [e1]; exact hx.ownS gr hgl
/-- What is made at last. -/
def ElsF (base : Nat) (R : World → Array Value → α → Prop) (sz : Nat) (w : World) (A : Option Addr) (n : Nat) (zs : List α) : Prop := Els R sz w A n zs ∧ (0 < n → ∀ b o, A = some ⟨b, o, none⟩ → base ≤ b)
theorem ElsK.els (h : ElsK R sz e base N S w A n c zs) : ElsF base R sz w A n zs := by
  obtain ⟨hl, vals, hr, hk⟩ := h
  exact ⟨⟨hl, vals, hr.len, hr.at, fun i x hx => (hk i x hx).out⟩, fun _ b o e => by subst e; exact hr.lt.1⟩
theorem ElsF.nil (base : Nat) (R : World → Array Value → α → Prop) (sz : Nat) (w : World) (A : Option Addr) : ElsF base R sz w A 0 [] := ⟨Els.nil _ _ _ _, fun h => absurd h (by omega)⟩
theorem ElsF.mono {base' : Nat} (h : ElsF base R sz w A n zs) (hb : base' ≤ base) {R' : World → Array Value → α → Prop} (hR : ∀ cs x, R w cs x → R' w cs x) : ElsF base' R' sz w A n zs := by
  obtain ⟨⟨hl, vs, h2, h3, h4⟩, hf⟩ := h
  exact ⟨⟨hl, vs, h2, h3, fun i x hx => hR _ _ (h4 i x hx)⟩, fun hn b o e => Nat.le_trans hb (hf hn b o e)⟩
theorem ElsF.kk (h : ElsF base R sz w A n zs) (hz : 0 < sz) (hS : ∀ g ∈ S, g < base) (hR : ∀ cs x, R w cs x → Kp w.heap.size S (fun w => R w cs x) w) : Kp w.heap.size S (fun w => ElsF base R sz w A n zs) w := by
  obtain ⟨⟨hl, vs, h2, h3, h4⟩, hf⟩ := h
  refine ⟨Nat.le_refl _, fun w2 hw => ⟨⟨hl, vs, h2, ?_, fun i x hx => (hR _ _ (h4 i x hx)).2 w2 hw⟩, hf⟩⟩
  refine (Kp.at h3 fun hne g hg o e => ?_).2 w2 hw
  have hn : 0 < n := by
    rcases Nat.eq_zero_or_pos n with h | h
    · subst h; rw [Nat.zero_mul] at h2; exact absurd (List.eq_nil_of_length_eq_zero h2) hne
    · exact h
  have := hf hn g o e; have := hS g hg; omega
theorem ElsF.at (h : ElsF base R sz w A n zs) : Els R sz w A n zs := h.1
end
end Go.Proofs.YtpgalbgonmclaaaGreat
