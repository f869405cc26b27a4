/- The law WelcomeRaw: what any welcome has for a package. No conditions: contracts of functions. -/
import Derived.Test.YtgfafidlkldeaaaGreatMsZ
import Derived.Test.YtgfafidlkldeaaaGreatWlC
import Derived.Test.YtgfafidlkldeaaaGreatSecE
import Derived.Test.YtgfafidlkldeaaaGreatFieldB
import Derived.Test.YtgfafidlkldeaaaGreatBigC
set_option linter.unusedVariables false
set_option linter.unusedSimpArgs false
set_option maxHeartbeats 4000000
set_option maxRecDepth 4000
namespace Go.Proofs.YtgfafidlkldeaaaGreat
variable {cs ds es : Array Value} {b1 b2 ini j nm seed t : Lb} {base c c' i k n sz : Nat} {A A' : Oa} {o o' : Option Nat} {w w' : World} {x : kg}
section
open Go.ChangeShapes Go.WideShapes Go.ChangeAt Go.RowKit
variable {H : Type} {enc : TypeId × Value → H} {W : World} {spare : Nat → Bool} {held : Bool}
theorem ER {v : Value} {d : DataW H} {p : List MemPlace} (h : DataW.Trod enc Tryz.prog W base spare held 42 v d p) : ∃ cs x, v = .agg cs ∧ OU W cs x := by
 obtain ⟨fuel, hf⟩ := h;obtain ⟨x, hx⟩ := Jw hf;obtain ⟨_, hl, hfs⟩ := trod_struct Tryz.underlying42 hf;refine ⟨_, x, Ij rfl (by rw [hl]; decide +kernel), hx, fun A' n' c' e' => ?_⟩;have c0 : Tryz.prog.cellsOf 23 = 1 := by kernel_rfl
 obtain ⟨_, t3⟩ := hfs 3 _ rfl;obtain ⟨A, n, c, r, e, _, hc⟩ := ye t3;have q := zh (i := 6) c0 e;have e2 : v.cells.toList[6]? = some (.slice A' n' c') := by simpa using e'
 rw [q] at e2;injection e2 with e2
 injection e2 with _ e3 e4
 omega
end
section
open Go.RowKit
attribute [local irreducible] Y Ef WL WC WK WQ WM cv WN WF cZ WJ gI WR qK
open Wire Nd Hk
structure Gs where
 pk : Pack
 way : List UInt8
def L6 (i h0 h1 h2 : Hd) (s : Nat) (h4 h5 g y : Hd) : Array Value := #[.slice i.A i.n i.c, .slice h0.A h0.n h0.c, .slice h1.A h1.n h1.c, .slice h2.A h2.n h2.c, .int .u8 (s : Int), .slice h4.A h4.n h4.c, .slice h5.A h5.n h5.c, .slice g.A g.n g.c, .slice y.A y.n y.c]
def Cq (B : Hd → List UInt8 → Prop) (cs : Array Value) (x : Gs) : Prop :=
 ∃ i h0 h1 h2 h4 h5 g y, cs = L6 i h0 h1 h2 x.pk.leaf.src h4 h5 g y ∧ x.pk.leaf.src < 256 ∧ B i x.pk.init ∧ B h0 x.pk.leaf.box ∧ B h1 x.pk.leaf.sign ∧ B h2 x.pk.leaf.ident ∧ B h4 x.pk.leaf.parent ∧ B h5 x.pk.leaf.sig ∧ B g x.pk.sig ∧ B y x.way
def tX (w : World) (cs : Array Value) (x : Gs) : Prop := Cq (py w) cs x
theorem Cq.imp {B B' : Hd → List UInt8 → Prop} {x : Gs} (h : Cq B cs x) (f : ∀ h xs, B h xs → B' h xs) : Cq B' cs x := by obtain ⟨i, h0, h1, h2, h4, h5, g, y, e, p, q, q0, q1, q2, q4, q5, r, t⟩ := h;exact ⟨i, h0, h1, h2, h4, h5, g, y, e, p, f _ _ q, f _ _ q0, f _ _ q1, f _ _ q2, f _ _ q4, f _ _ q5, f _ _ r, f _ _ t⟩
theorem tX.ext {x : Gs} (h : tX w cs x) (e : Ext w w') : tX w' cs x := Cq.imp h fun _ _ b => Bs.ext b e
def GL : ByteArray := ⟨#[103, 117, 101, 115, 116]⟩
def CJ (seed : Lb) (k : Nat) : List UInt8 := Kdf.label seed GL.data.toList (Wire.be 4 k) 32
def jW (j seed inf : Lb) (k : Nat) (x : Gs) : List UInt8 × List UInt8 × Nat := sl x.pk.init (CJ seed k) (Hk.info jI inf) (rv j x.way) []
def Fc (j seed inf : Lb) (k : Nat) (x : Gs) : lB × Nat :=
 if ¬ dk x.pk ∨ ¬ qG j x.way then (lB.zero, 3) else (⟨ik x.pk, (jW j seed inf k x).1, (jW j seed inf k x).2.1⟩, (jW j seed inf k x).2.2)
theorem Ok (pb sd is ts ms : Lb) : (sl pb sd is ts ms).2.2 < 256 := by
 have := GK pb sd;unfold sl; split
 ·omega
 show 0 < 256; omega
theorem MV (j y : Lb) : (rv j y).length ≤ j.length + y.length + 20 := by have h1 := Wire.bE j.length; have h2 := Wire.bE y.length;unfold rv; split <;> simp [iV] <;> omega
end
section
open Go.RowKit
def Bx (S : List Nat) (w : World) (h : Hd) (xs : Lb) : Prop := py w h xs ∧ (0 < h.n → ∀ b o, h.A = some ⟨b, o, none⟩ → b ∉ S)
section
variable {S T : List Nat} {H : Hd} {xs : Lb}
theorem Bx.bk (h : Bx S w H xs) (k : aE T w w') (hT : ∀ g ∈ T, g ∈ S) : Bx S w' H xs :=
 ⟨((Kp.bs h.1 fun hn g hg o e => h.2 hn g o e hg).bk k hT).out, h.2⟩
theorem Bx.ext (h : Bx S w H xs) (k : Ext w w') : Bx S w' H xs := h.bk (aE.of k []) (by simp)
theorem Bx.re (h : Bx S w H xs) (hS : ∀ g ∈ T, g ∈ S ∨ w.heap.size ≤ g) : Bx T w H xs := ⟨h.1, fun hn b o e hm => by
 rcases hS b hm with h1 | h1
 ·exact h.2 hn b o e h1
 have h2 := h.1;unfold py at h2;rw [e] at h2;have := Bs.RR h2 hn
 omega⟩
theorem Bx.of (h : Fb base w H.A H.n xs) (hS : ∀ g ∈ S, g < base) : Bx S w H xs := ⟨h.1, fun hn b o e hm => by have := h.2 hn b o e; grind⟩
theorem Bx.grown (h : Bx (o.toList ++ S) w H xs) (gr : w.grownBy w' o) (hgl : o' = o ∨ o' = some w.heap.size) : Bx (o'.toList ++ S) w' H xs := by
 have h1 := h.bk (aE.IF gr) (fun g hg => List.mem_append_left _ hg);rcases hgl with rfl | rfl
 ·exact h1
 exact ⟨h1.1, (h.re (T := (some w.heap.size).toList ++ S) fun g hg => by
  grind).2⟩
end
def jt {α : Type} (RC : (Hd → List UInt8 → Prop) → Array Value → α → Prop) (sz : Nat) (e : TypeId) (base : Nat) (S : List Nat) (w : World) (A : Oa) (n c : Nat) (zs : List α) (vals : List Value) : Prop :=
 zs.length = n ∧ jJ w base e sz A n c vals ∧ ∀ i x, zs[i]? = some x → RC (Bx ((Value.slice A n c).ownBlock.toList ++ S) w) ((vals.drop (i * sz)).take sz).toArray x
def NL {α : Type} (RC : (Hd → List UInt8 → Prop) → Array Value → α → Prop) : Prop := ∀ (B B' : Hd → List UInt8 → Prop) (cs : Array Value) (x : α), RC B cs x → (∀ h xs, B h xs → B' h xs) → RC B' cs x
variable {α : Type} {RC : (Hd → List UInt8 → Prop) → Array Value → α → Prop} {e : TypeId} {S T : List Nat} {zs : List α} {vals : List Value}
theorem jt.empty (RC : (Hd → List UInt8 → Prop) → Array Value → α → Prop) (sz : Nat) (e : TypeId) (base : Nat) (S : List Nat) (w : World) : jt RC sz e base S w none 0 0 [] [] := ⟨rfl, jJ.empty _ _ _ _, fun i x hx => by simp at hx⟩
theorem jt.bk (h : jt RC sz e base S w A n c zs vals) (I : NL RC) (k : aE T w w') (hT : ∀ g ∈ T, g ∈ S) (hb : ∀ g ∈ T, g < base) : jt RC sz e base S w' A n c zs vals :=
 ⟨h.1, h.2.1.bk k hb, fun i x hx => I _ _ _ _ (h.2.2 i x hx) fun _ _ b => b.bk k fun g hg => List.mem_append_right _ (hT g hg)⟩
theorem jt.ext (h : jt RC sz e base S w A n c zs vals) (I : NL RC) (k : Ext w w') : jt RC sz e base S w' A n c zs vals := h.bk I (aE.of k []) (by simp) (by simp)
theorem jt.other (h : jt RC sz e base (o.toList ++ S) w A n c zs vals) (I : NL RC) (gr : w.grownBy w' o) (hgl : o' = o ∨ o' = some w.heap.size) (hne : ∀ g ∈ (Value.slice A n c).ownBlock.toList, g ∉ o.toList) : jt RC sz e base (o'.toList ++ S) w' A n c zs vals := by
 obtain ⟨hl, hr, hk⟩ := h;refine ⟨hl, ⟨hr.1, ?_⟩, fun i x hx => I _ _ _ _ (hk i x hx) fun _ _ b => ?_⟩
 ·rcases hr.2 with h0 | ⟨g, cap, cur, hv, hb, hc, r⟩
  ·exact .inl h0
  exact .inr ⟨g, cap, cur, hv, hb, ((aE.IF gr).block g (Array.getElem?_eq_some_iff.1 hc).1 (hne g (by injection hv with e1; subst e1; simp [Value.ownBlock]))).trans hc, r⟩
 have h1 : Bx (o.toList ++ ((Value.slice A n c).ownBlock.toList ++ S)) w _ _ := b.re fun g hg => .inl (by grind);exact (h1.grown gr hgl).re fun g hg => .inl (by grind)
theorem jt.RO (h : jt RC sz e base S w A n c zs vals) (I : NL RC) : rl (fun w cs x => RC (py w) cs x) sz w A n zs :=
 ⟨h.1, vals, h.2.1.len, h.2.1.at, fun i x hx => I _ _ _ _ (h.2.2 i x hx) fun _ _ b => b.1⟩
theorem jt.app {x : α} (h : jt RC sz e base S w A n c zs vals) (I : NL RC) (hx : RC (Bx ((Value.slice A n c).ownBlock.toList ++ S) w) cs x) (hz : cs.size = sz)
  (Vq : jJ w' base e sz A' (n + 1) c' (vals ++ cs.toList)) (gr : w.grownBy w' (Value.slice A n c).ownBlock) (hgl : (Value.slice A' (n + 1) c').ownBlock = (Value.slice A n c).ownBlock ∨ (Value.slice A' (n + 1) c').ownBlock = some w.heap.size) : jt RC sz e base S w' A' (n + 1) c' (zs ++ [x]) (vals ++ cs.toList) := by
 obtain ⟨hl, hr, hk⟩ := h;have hvl := hr.len;refine ⟨by simp [hl], Vq, fun i y hy => ?_⟩;rcases Nat.lt_or_ge i n with hi | hi
 ·rw [List.getElem?_append_left Om] at hy;have hm : (i + 1) * sz ≤ n * sz := Nat.mul_le_mul_right sz Om;rw [Nat.add_mul, Nat.one_mul] at hm;rw [List.drop_append_of_le_length Om, List.take_append_of_le_length (by grind)];exact I _ _ _ _ (hk i y hy) fun _ _ b => b.grown gr hgl
 rw [List.getElem?_append_right Om] at hy
 have Vr : i - zs.length = 0 := by grind
 rw [Vr] at hy;injection hy with hy
 subst hy;obtain rfl : i = n := by omega
 rw [← hvl, List.drop_left, List.take_of_length_le (by simp [hz])];exact I _ _ _ _ hx fun _ _ b => b.grown gr hgl
end
section
open Go.RowKit
attribute [local irreducible] Y Ef WL WC WK WQ WM cv WN WF cZ WJ gI WR qK
open Wire Nd Hk
abbrev sO (j seed inf : Lb) (gs : List Gs) (i : Nat) : lB × Nat := Fc j seed inf i (gs.getD i ⟨Pack.zero, []⟩)
/-! What welcome.Make makes, plainly. -/
def RG (j seed inf : Lb) (gs : List Gs) : kg × Nat :=
 match (List.range gs.length).find? (fun i => decide ((sO j seed inf gs i).2 ≠ 0)) with
 | some i => (kg.zero, (sO j seed inf gs i).2)
 | none => (⟨(List.range gs.length).map fun i => (sO j seed inf gs i).1, inf⟩, 0)
theorem Ic {inf : Lb} {gs : List Gs} (h : ∀ i, i < gs.length → (sO j seed inf gs i).2 = 0) : RG j seed inf gs = (⟨(List.range gs.length).map fun i => (sO j seed inf gs i).1, inf⟩, 0) := by
 have e : (List.range gs.length).find? (fun i => decide ((sO j seed inf gs i).2 ≠ 0)) = none := List.find?_eq_none.2 fun i hi => by simp [h i (List.mem_range.1 hi)]
 unfold RG; rw [e]
theorem Dc {inf : Lb} {gs : List Gs} (hi : i < gs.length) (h : ∀ k, k < i → (sO j seed inf gs k).2 = 0) (hn : (sO j seed inf gs i).2 ≠ 0) : RG j seed inf gs = (kg.zero, (sO j seed inf gs i).2) := by
 have e : (List.range gs.length).find? (fun i => decide ((sO j seed inf gs i).2 ≠ 0)) = some i := by
  refine vx _ _ i i ?_ ?_ (by simpa using hn)
  ·rw [List.getElem?_range hi]
  rw [List.take_range];exact List.find?_eq_none.2 fun k hk => by simp [h k (by have := List.mem_range.1 hk; omega)]
 unfold RG; rw [e]
def iu (ts : List (List UInt8)) (i : jq) (gs : List Gs) (seed : Lb) : kg × Nat :=
 if ¬ gL i then (kg.zero, 3) else if 64 < gs.length then (kg.zero, 6)
 else RG (ts.getD 0 []) seed (Gm.nh (Kdf.label (ts.getD 1 []) sn.data.toList [] 16) (Kdf.label (ts.getD 1 []) jl.data.toList [] 12) (BA i) []) gs
/-! What a round finds and leaves. -/
def nE (B : Hd → List UInt8 → Prop) (cs : Array Value) (x : lB) : Prop := ∃ a b c, cs = fx a b c ∧ B a x.ref ∧ B b x.enc ∧ B c x.box ∧ c.n ≤ c.c
theorem nE.imp : NL nE := fun _ _ _ _ ⟨a, b, c, e, h1, h2, h3, h4⟩ f => ⟨a, b, c, e, f _ _ h1, f _ _ h2, f _ _ h3, h4⟩
theorem nE.ac {x : lB} (h : nE (py w) cs x) : mh w cs x := by obtain ⟨a, b, c, rfl, h1, h2, h3, h4⟩ := h;exact ⟨⟨a, b, c, rfl, h1, h2, h3⟩, fun A n c e => by have e' : some (Value.slice _ _ _) = _ := e; injection e' with e'; injection e' with _ e2 e3; omega⟩
theorem NK : vT Tryz.prog 22 37 3 72 := vT.of (z := .agg #[.slice none 0 0, .slice none 0 0, .slice none 0 0]) Tryz.underlying22 Kr Kr Om
end
open Go.RowKit Tryz
attribute [local irreducible] Y Ef WL WC WK WQ WM cv WN WF cZ WJ gI WR qK
open Wire Nd Hk
theorem Gt {α : Type} (p : α → Bool) (l : List α) (i : Nat) (x : α) (hx : l[i]? = some x) (h : (l.take i).find? p = none) (hp : ¬ p x = true) : (l.take (i + 1)).find? p = none := by rw [List.take_add_one, hx, List.find?_append, h, Option.none_or];simp [hp]
theorem Ev (w : World) (H : ka w cs x) (hn : x.guests.length ≤ 1000) (HA : Bs w A n nm) (hA : n ≤ 1000) (hs : ∀ g ∈ x.guests, g.ref.length ≤ 1000) :
  Ct 37 #[.agg cs, .slice A n c] w fun e w' => ∃ a b : Hd, e = .returned (.tuple #[.agg (fK a b), .bool (x.guests.find? (fun g => decide (g.ref = nm))).isSome]) ∧ (∀ g, x.guests.find? (fun g => decide (g.ref = nm)) = some g → py w' a g.enc ∧ py w' b g.box ∧ b.n ≤ b.c) ∧ Ext w w' := by
 have HW := H;obtain ⟨h0, h1, rfl, a0, a1⟩ := H;have l0 := a0.1;have E := Ext.refl w
 obtain ⟨p, hp⟩ : ∃ p : lB → Bool, p = fun g => decide (g.ref = nm) := ⟨_, rfl⟩
 rw [← hp];refine du (s := 2) 23 func37 rfl rfl rfl underlying35 rfl Kr rfl ?_;intro _ hret;refine aU ?_;intro _ _ B2 _ ex;have Vz := B2.lt;replace E := E.ext ex;refine aU ?_;intro _ g4 B4 _ ex;obtain ⟨E,B2⟩ := aZ ex E B2;refine aU ?_;have Vs : w.heap.size ≤ g4 := by omega
 refine aD (fun n' L wr => ∃ i : Nat, L = [(1, .slice A n c), (4, .pointer (some ⟨g4, 0, none⟩)), (9, .slice h0.A h0.n h0.c), (10, .int .i64 (h0.n : Int)), (11, .int .i64 (i : Int))] ∧ n' = h0.n - i ∧ (i ≤ h0.n ∧ Ext w wr ∧ ao wr g4 35 #[.slice none 0 0, .slice none 0 0] ∧ (x.guests.take i).find? p = none)) _ _ ⟨0, rfl, rfl, Nat.zero_le _, E, B4, rfl⟩ Ls ?_;rintro _ n' L wr ⟨i, rfl, rfl, _, E, B4, hno⟩ Vt;refine aU ?_;refine ak rfl (fun Vu => ?_) (fun Vu => ?_)
 ·obtain ⟨b1, o1, VA, y, e1, _, hx, hcz, hR, hcx⟩ := (a0.ext E (fun _ _ h => mh.ext h E)).Ck Om (i := i) Om;obtain ⟨⟨f0, f1, f2, rfl, Vv, Vw, Vx⟩, Vy⟩ := hR;have q2 : f2.n ≤ f2.c := Vy _ _ _ rfl;have v0 : Bs wr f0.A f0.n y.ref := Vv;have v1 : Bs wr f1.A f1.n y.enc := Vw;have v2 : Bs wr f2.A f2.n y.box := Vx;refine au 6 ?_;refine al (cH (s := 3) (j := i) e1 rfl rfl Tn.u Kr rfl Om) ?_;refine al (dP (cs := fx f0 f1 f2) rfl Tn.u rfl Kr fun j v hv => by rw [Addr.add_plain]; exact hcx j v hv) ?_;refine aU ?_;intro _ _ D7 Vq exA;refine aU ?_;intro _ B7 cg;have ex := exA.aA cg Vq; clear cg exA D7;obtain ⟨E,B4,v0,v1,v2⟩ := eQ ex E B4 v0 v1 v2;replace B7 := B7.congr (cs' := fx f0 f1 f2) rfl;refine aU ?_;refine aC func89 rfl (sk f0.A A f0.n f0.c n c _ _ _ v0 (HA.wk E)) ?_;rintro e _ ⟨rfl, ex⟩;obtain ⟨E,B4,v1,v2,B7⟩ := eQ ex E B4 v1 v2 B7;refine aU ?_;refine ak rfl (fun Vr => ?_) (fun Vr => ?_)
  ·refine aU ?_;intro w6 D4 cg;have J1 := (fC v1 (bV B4 rfl dE)).bk (aE.one cg); have J2 := (fC v2 (bV B4 rfl dE)).bk (aE.one cg); replace E := E.aA cg Vs; replace B4 := D4.congr (cs' := fK f1 f2) rfl;refine aU ?_;refine hret rfl rfl B4 rfl ?_;have hf := vx p x.guests i y hx hno (by rw [hp]; exact decide_eq_true Vr);rw [hf];exact ⟨f1, f2, rfl, (fun g hg => by injection hg with hg; subst hg; exact ⟨J1.out, J2.out, q2⟩), E⟩
  refine au 7 ?_;refine ae ?_;refine Vt _ _ ⟨i + 1, rfl, rfl, by omega, E, B4, Gt p x.guests i y hx hno (by rw [hp]; simpa using Vr)⟩ Om Ls
 have hnone : x.guests.find? p = none := by rw [List.take_of_length_le Om] at hno; exact hno
 refine au 7 ?_;refine al (ar rfl (cells := fK an an) Kr) ?_;refine aU ?_;intro w6 D4 cg;replace E := E.aA cg Vs; replace B4 := D4.congr (cs' := fK an an) rfl;refine aU ?_;refine hret rfl rfl B4 rfl ?_;rw [hnone]; exact ⟨an, an, rfl, (fun g hg => by cases hg), E⟩
theorem BU (A B C D : Oa) (n c m d k q z v : Nat) (xs ys is bx : Lb) (w : World) (HA : Bs w A n xs) (hn : n ≤ 1000) (HB : Bs w B m ys) (hm : m ≤ 1000) (HC : Bs w C k is) (hk : k ≤ 8000)
  (HD : Bs w D z bx) (hz : z ≤ 80000) (hzv : z ≤ v) :
  Ct 90 #[.slice A n c, .slice B m d, .slice C k q, .slice D z v, .slice none 0 0] w fun e w' => ∃ A1 k1 c1, e = .returned (.tuple #[.slice A1 k1 c1, .int .u8 ((op xs ys is bx []).2 : Int)]) ∧ Bs w' A1 k1 (op xs ys is bx []).1 ∧ k1 ≤ z ∧ k1 ≤ c1 ∧ Ext w w' := by
 have E := Ext.refl w;have hbl := HD.1;refine bL 42 func90 rfl rfl rfl rfl ?_;intro _ hret;refine aU ?_;refine aC func165 rfl (yi A B n c m d xs ys _ HA hn HB hm) ?_;rintro e _ ⟨A1, k1, c1, rfl, H1, _, ex⟩;obtain ⟨HC,HD,E⟩ := bF ex HC HD E;refine aU ?_;refine ak rfl (fun Vs => ?_) (fun Vs => ?_)
 ·refine aU ?_;refine hret rfl rfl ?_;exact ⟨none, 0, 0, by rw [op, if_pos Om], by rw [op, if_pos Om]; exact Bs.nil _ _, by omega, by omega, E⟩
 have hop : op xs ys is bx [] = ob (Gm.Aw (Er (Av xs ys).1 is) (EB (Av xs ys).1 is) bx []) := by rw [op, if_neg Om]
 obtain ⟨o, ho⟩ : ∃ o, o = Gm.Aw (Er (Av xs ys).1 is) (EB (Av xs ys).1 is) bx [] := ⟨_, rfl⟩
 have hol : (o.getD []).length ≤ z := by
  rw [ho]; unfold Gm.Aw;split
  ·exact Nat.zero_le _
  split
  ·show (Gm.OX _ _ _).length ≤ z;rw [Gm.nH, List.length_take]; omega
  exact Nat.zero_le _
 rw [← ho] at hop;refine aU ?_;refine aC func166 rfl (uS A1 C k1 c1 k q _ is _ H1 Om HC hk) ?_;rintro e _ ⟨_, _, _, _, rfl, H3, H4, _, _, ex⟩;obtain ⟨HD,E⟩ := aZ ex HD E;refine aU ?_;intro _ _ Vt Vq exA;refine aU ?_;intro _ _ cg;have ex := exA.aA cg Vq; clear cg exA Vt;obtain ⟨HD,E,H3,H4⟩ := bU ex HD E H3 H4;refine aU ?_;refine aC func42 rfl (pO _ H3 H4 HD Om hzv (Bs.nil _ _) Om Om) ?_;rintro e _ ⟨A5, k5, c5, rfl, R5, ex⟩;refine au 1 ?_;replace E := E.ext ex;rw [← ho] at R5 ⊢; have H5 := R5.bs; have Vu := H5.1;refine aU ?_;refine bB rfl (fun Vr => ?_) (fun Vr => ?_)
 ·refine aU ?_;refine hret rfl rfl ?_;have : o.isSome = false := by simpa using Vr
  have hn : o = none := by cases o with | none => rfl | some x => cases this
  subst hn;rw [hop];exact ⟨none, 0, 0, rfl, Bs.nil _ _, by omega, by omega, E⟩
 refine aU ?_;refine hret rfl rfl ?_;have hs : o.isSome = true := by simpa using Vr
 rw [hop];exact ⟨A5, k5, c5, by unfold ob; rw [if_pos hs]; rfl, H5, by omega, R5.cap, E⟩
theorem sN (A B C D : Oa) (lb : ByteArray) (n c m d k q z v : Nat) (xs ys cs bx : Lb) (w : World) (hlb : lb.size ≤ 100) (HA : Bs w A n xs) (hn : n ≤ 1000) (HB : Bs w B m ys) (hm : m ≤ 1000) (HC : Bs w C k cs) (hk : k ≤ 6000)
  (HD : Bs w D z bx) (hz : z ≤ 80000) (hzv : z ≤ v) :
  Ct 38 #[.slice A n c, .slice B m d, .string lb, .slice C k q, .slice D z v] w fun e w' => ∃ A1 k1 c1, e = .returned (.tuple #[.slice A1 k1 c1, .int .u8 ((op xs ys (info lb cs) bx []).2 : Int)]) ∧ Bs w' A1 k1 (op xs ys (info lb cs) bx []).1 ∧ k1 ≤ z ∧ k1 ≤ c1 ∧ (op xs ys (info lb cs) bx []).2 < 256 ∧ Ext w w' := by
 have E := Ext.refl w
 have Vq : (op xs ys (info lb cs) bx []).2 < 256 := by
  unfold op; split
  ·exact JE _ _
  unfold ob; split
  ·show 0 < 256; omega
  show 11 < 256; omega
 refine bL 21 func38 rfl rfl rfl rfl ?_;intro _ hret;refine aU ?_;refine aC func91 rfl (nf lb C k q cs _ hlb HC Om) ?_;rintro e _ ⟨A1, k1, c1, rfl, H1, _, ex⟩;obtain ⟨HA,HB,HD,E⟩ := bU ex HA HB HD E;refine aU ?_;refine aC func90 rfl (BU A B A1 D n c m d k1 c1 z v xs ys _ bx _ HA hn HB hm H1 Om HD Om hzv) ?_;rintro e _ ⟨A2, k2, c2, rfl, H2, Vr, Vs, ex⟩;replace E := E.ext ex;refine aU ?_;refine hret rfl rfl ?_;exact ⟨A2, k2, c2, rfl, H2, Vr, Vs, Vq, E⟩
theorem xM {α : Type} {z : α} {p : α × Wire.St} {ok : Bool} (h : (M20.db z p ok).2 = 0) : ok = true ∧ (M20.db z p ok).1 = p.1 := by
 unfold M20.db at h ⊢;by_cases h1 : Wire.eY p.2 ≠ 0
 ·rw [if_pos h1] at h; exact absurd h h1
 rw [if_neg h1] at h ⊢
 cases ok with
 | true => exact ⟨rfl, rfl⟩
 | false => exact absurd (show (3 : Nat) = 0 from h) Om
theorem Cp (h : (M20.dI t).2 = 0) : qG (M20.dI t).1.1 (M20.dI t).1.2.2 := by obtain ⟨h1, h2⟩ := xM h;have := (of_decide_eq_true h1).1;rw [show (M20.dI t).1 = _ from h2]; exact this
theorem JN (h : (M20.dj t).2 = 0) : gL (M20.dj t).1 := by obtain ⟨h1, h2⟩ := xM h;rw [show (M20.dj t).1 = _ from h2]; exact of_decide_eq_true h1
theorem qM {i : jq} (h : gL i) (he : i.ctx.ep < 18446744073709551616) : i.ctx.Small := ⟨by have := h.1; omega, by have := h.2.1; omega, by have := h.2.2.1; omega, he⟩
theorem No (w : World) : gP w (Ez an 0 an an) Ctx.zero := Iq.at ⟨an, an, an, rfl, (by decide), Bs.nil _ _, Bs.nil _ _, Bs.nil _ _⟩
theorem Cj : Ctx.zero.Small := ⟨Nat.zero_le _, Nat.zero_le _, Nat.zero_le _, by decide⟩
theorem lW (j : Lb) (c : Ctx) : ((eo j c).getD 8 []).length = 32 := dK _ _ _ _
theorem pL (j : Lb) (c : Ctx) : (eo j c).getD 1 [] = ln j := rfl
theorem sH {p : Pack} (h : ¬ dk p) : dr x p ini = (jo.zero, 3) := by unfold dr; rw [if_pos h]
theorem rX {p : Pack} (h : dk p) : dr x p ini = Sq x ini (x.guests.find? fun g => decide (g.ref = ik p)) := by unfold dr; rw [if_neg (fun h' => h' h)]
theorem oU (p : Pack) : (ik p).length = 32 := Sha.cn _
theorem AX {k n b m : Lb} (h : Gm.Aw k n b m = some t) : t.length ≤ b.length := by
 unfold Gm.Aw at h;split at h
 ·cases h
 split at h
 ·injection h with h
  rw [← h, Gm.nH, List.length_take]; omega
 cases h
theorem pV {p : Pack} (w : World) (HW : ka w cs x) (hx : x.Small) (HP : dx w ds p) (hp : p.Small) (HK : qE w es ini b1 b2) (hini : ini.length ≤ 100) :
  Ct 12 #[.agg cs, .agg ds, .agg es] w fun e w' => ∃ cs', e = .returned (.tuple #[.agg cs', .int .u8 (((dr x p ini).2 : Nat) : Int)]) ∧ eL w' cs' (dr x p ini).1 ∧ (dr x p ini).2 < 256 ∧ Ext w w' := by
 have VZ := HW;obtain ⟨h0, h1, rfl, a0, a1, ac⟩ := VZ;have V0 := HP;obtain ⟨i, p0, p1, p2, p4, p5, pg, rfl, hsrc, _⟩ := V0;have V4 := HK;obtain ⟨k0, k1, k2, rfl, VQ, Ws, Ww⟩ := V4;have Wx := VQ.1;have Wy := a1.1;obtain ⟨Wz, VH, WA⟩ := hx
 obtain ⟨o, ho⟩ : ∃ o, o = x.guests.find? (fun g => decide (g.ref = ik p)) := ⟨_, rfl⟩
 have F := aE.refl [] w;refine du (s := 20) 108 func12 rfl rfl rfl underlying46 rfl Kr rfl ?_;intro _ hret;refine aU ?_;intro _ _ B3 _ ex;have WB := B3.lt;replace F := F.ext ex;refine aU ?_;intro _ _ B4 _ ex;have WD := B4.lt;obtain ⟨F,B3⟩ := aZ ex F B3;refine aU ?_;intro _ _ B5 _ ex;have WE := B5.lt;obtain ⟨F,B3,B4⟩ := bF ex F B3 B4;refine aU ?_;intro _ Vw B6 Vx ex;replace F := F.grow ex Vx;replace B3 := B3.grow ex Vx;replace B4 := B4.grow ex Vx;replace B5 := B5.grow ex Vx;refine aU ?_;have X1 := F.aS So;refine aC func36 rfl (rz _ (HP.ext X1) hp) ?_;rintro e _ ⟨A8, k8, _, z8, rfl, T8, _, ex⟩;obtain ⟨F,B3,B5,B6⟩ := bU ex F B3 B5 B6;refine aU ?_;refine ak rfl (fun V5 => ?_) (fun V5 => ?_)
 ·have hno : ¬ dk p := fun h => by have := (T8.1 h).1; omega
  have V6 : z8 = 3 := (T8.2 hno).1;refine au 2 ?_;refine al (ar rfl (cells := cE) Kr) ?_;refine aU ?_;intro _ D cg;have ex := aE.one cg;clear cg;replace F := F.bk ex;replace B6 := D; clear D;replace B6 := B6.congr (cs' := cE) rfl;refine aU ?_;refine hret rfl rfl B6 rfl ?_;subst V6; rw [sH hno]; exact ⟨cE, rfl, eL.zero _, (by first | decide | omega | (dsimp only; omega) | exact (show (7 : Nat) < 256 by decide) | exact (show (11 : Nat) < 256 by decide)), F.aS So⟩
 have okp : dk p := Classical.byContradiction fun h => by have := (T8.2 h).1; omega
 have H8 : Bs _ A8 k8 (ik p) := (T8.1 okp).2;have WG : k8 = 32 := by rw [← H8.1]; exact oU p
 have X4 := F.aS So;have hwo := rX (x := x) (ini := ini) okp;rw [← ho] at hwo;refine aU ?_;refine aC func37 rfl (Ev _ (HW.ext X4) Om H8 Om (fun g hg => by have := (VH g hg).1; omega)) ?_;rintro e w2 ⟨fa, fb, rfl, hab, ex⟩;refine au 1 ?_;obtain ⟨F,B3,B5,B6⟩ := bU ex F B3 B5 B6;rw [← ho] at hab ⊢; have C2 := aE.refl [] w2;refine aU ?_;intro _ Vv Vs Vt ex;have VI : Vw < Vv := Nat.lt_of_lt_of_le B6.lt Vt;replace F := F.grow ex Vt;replace B3 := B3.grow ex Vt;replace B5 := B5.grow ex Vt;replace B6 := B6.grow ex Vt;replace C2 := C2.grow ex Vt;refine aU ?_;intro _ D cg;have ex := aE.one cg;clear cg;obtain ⟨F,B3,B5,B6,C2⟩ := ux ex F B3 B5 B6 C2;replace Vs := D; clear D;replace Vs := Vs.congr (cs' := fK fa fb) rfl;refine au 5 ?_;by_cases hso : o = none
 ·subst hso;refine au 5 ?_;refine bX rfl rfl ?_;refine au 2 ?_;refine al (ar rfl (cells := cE) Kr) ?_;refine aU ?_;intro _ D cg;have ex := aE.one cg;clear cg;replace F := F.bk ex;replace B6 := D; clear D;replace B6 := B6.congr (cs' := cE) rfl;refine aU ?_;refine hret rfl rfl B6 rfl ?_;rw [hwo]; exact ⟨cE, rfl, eL.zero _, (by first | decide | omega | (dsimp only; omega) | exact (show (7 : Nat) < 256 by decide) | exact (show (11 : Nat) < 256 by decide)), F.aS So⟩
 obtain ⟨gg, rfl⟩ : ∃ g, o = some g := by
  cases o with
  | none => exact absurd rfl hso
  | some t => exact ⟨t, rfl⟩
 refine au 5 ?_;refine bg rfl rfl ?_;refine au 12 ?_;obtain ⟨ga, gb, hgc⟩ := hab gg rfl;have hgm : gg ∈ x.guests := List.mem_of_find?_eq_some ho.symm;have hgs := VH gg hgm;have XC := C2.aS So;have X7 := F.aS So;have lga := (show Bs _ _ _ _ from ga).1;have lgb := (show Bs _ _ _ _ from gb).1;refine aC func38 rfl (sN k0.A fa.A h1.A fb.A jI k0.n k0.c fa.n fa.c h1.n h1.c fb.n fb.c ini gg.enc x.info gg.box _ pW (Bs.ext VQ X7) Om (Bs.ext ga XC) (by have := hgs.2.1; omega) (Bs.ext a1 X7) Om (Bs.ext gb XC) (by have := hgs.2.2; omega) hgc) ?_;rintro e _ ⟨_, _, _, rfl, VR, _, VJ, _, ex⟩;obtain ⟨F,B3,B6,Vs⟩ := bU ex F B3 B6 Vs;refine aU ?_;refine ak rfl (fun V9 => ?_) (fun V9 => ?_)
 ·have e9 : dr x p ini = (jo.zero, (op ini gg.enc (Hk.info jI x.info) gg.box []).2) := hwo.trans (show rr x ini gg = _ from by unfold rr; rw [if_pos Om]);refine au 2 ?_;refine al (ar rfl (cells := cE) Kr) ?_;refine aU ?_;intro _ D cg;have ex := aE.one cg;clear cg;replace F := F.bk ex;replace B6 := D; clear D;replace B6 := B6.congr (cs' := cE) rfl;refine aU ?_;refine hret rfl rfl B6 rfl ?_;rw [e9]; exact ⟨cE, rfl, eL.zero _, (by first | decide | omega | (dsimp only; omega) | exact (show (7 : Nat) < 256 by decide) | exact (show (11 : Nat) < 256 by decide)), F.aS So⟩
 refine au 3 ?_;have VK : dr x p ini = qP x (op ini gg.enc (Hk.info jI x.info) gg.box []).1 := hwo.trans (show rr x ini gg = _ from by unfold rr; rw [if_neg Om])
 obtain ⟨tx, htx⟩ : ∃ t, t = (op ini gg.enc (Hk.info jI x.info) gg.box []).1 := ⟨_, rfl⟩
 rw [← htx] at VK VR;have VS := (VH gg (List.mem_of_find?_eq_some ho.symm)).2.2;refine aU ?_;refine aC func39 rfl (tW _ VR VJ Om) ?_;rintro e _ ⟨hj, hy, rfl, Hj, Hy, _, ex⟩;obtain ⟨F,B3,B6,Vs⟩ := bU ex F B3 B6 Vs;have Kj := fC (S := [Vv, Vw]) Hj (bV Vs rfl (bV B6 rfl dE)); have Ky := fC (S := [Vv, Vw]) Hy (bV Vs rfl (bV B6 rfl dE)); have lj := Hj.1; have ly := Hy.1;refine aU ?_;refine ak rfl (fun Wa => ?_) (fun Wa => ?_)
 ·have Wb : dr x p ini = (jo.zero, (M20.dI tx).2) := by rw [VK]; unfold qP; rw [if_pos Om]
  refine au 2 ?_;refine al (ar rfl (cells := cE) Kr) ?_;refine aU ?_;intro _ D cg;have ex := aE.one cg;clear cg;replace F := F.bk ex;replace B6 := D; clear D;replace B6 := B6.congr (cs' := cE) rfl;refine aU ?_;refine hret rfl rfl B6 rfl ?_;rw [Wb]; exact ⟨cE, rfl, eL.zero _, (by first | decide | omega | (dsimp only; omega) | exact (show (7 : Nat) < 256 by decide) | exact (show (11 : Nat) < 256 by decide)), F.aS So⟩
 have VT : dr x p ini = EK x (M20.dI tx).1.1 (M20.dI tx).1.2.2 := by rw [VK]; unfold qP; rw [if_neg Om]
 have hok := Cp (t := tx) Om
 obtain ⟨jj, hjj⟩ : ∃ j, j = (M20.dI tx).1.1 := ⟨_, rfl⟩
 obtain ⟨yy, hyy⟩ : ∃ y, y = (M20.dI tx).1.2.2 := ⟨_, rfl⟩
 rw [← hjj, ← hyy] at VT hok;rw [← hjj] at Kj lj;rw [← hyy] at Ky ly;have Wc := hok.1
 obtain ⟨oo, hoo⟩ : ∃ o, o = Gm.Aw (Kdf.label (ln jj) sn.data.toList [] 16) (Kdf.label (ln jj) jl.data.toList [] 12) x.info [] := ⟨_, rfl⟩
 have VB : dr x p ini = Qd x jj yy oo := by rw [VT]; unfold EK; rw [← hoo]
 refine au 5 ?_;refine al (ar rfl (cells := Ez an 0 an an) Kr) ?_;refine aC func41 rfl (DN hj.A hj.n hj.c jj _ Ctx.zero _ Kj.out Om (No _) Cj) ?_;rintro e _ ⟨We, rfl, Wf, ex⟩;obtain ⟨F,B3,B6,Vs,Kj,Ky⟩ := iJ ex F B3 B6 Vs Kj Ky;refine aU ?_;refine aC func40 rfl (FQ We _ _ Wf (by rw [pL]; unfold ln; rw [dK]; omega)) ?_;rintro e _ ⟨_, _, _, _, rfl, VU, VV, ex⟩;obtain ⟨F,B3,B6,Vs,Kj,Ky⟩ := iJ ex F B3 B6 Vs Kj Ky;rw [pL] at VU VV;refine aU ?_;have Wg := F.aS So;refine aC func42 rfl (pO _ VU VV (Bs.ext a1 Wg) Om ac (Bs.nil _ none) (Nat.zero_le _) (Nat.zero_le _)) ?_;rintro e _ ⟨_, Wh, _, rfl, VA, ex⟩;refine au 1 ?_;obtain ⟨F,B6,Vs,Kj,Ky⟩ := eQ ex F B6 Vs Kj Ky;rw [← hoo] at VA ⊢;refine au 9 ?_;by_cases hsp : oo = none
 ·subst hsp;refine au 5 ?_;refine bX rfl rfl ?_;refine au 2 ?_;refine al (ar rfl (cells := cE) Kr) ?_;refine aU ?_;intro _ D cg;have ex := aE.one cg;clear cg;replace F := F.bk ex;replace B6 := D; clear D;replace B6 := B6.congr (cs' := cE) rfl;refine aU ?_;refine hret rfl rfl B6 rfl ?_;rw [VB]; exact ⟨cE, rfl, eL.zero _, (by first | decide | omega | (dsimp only; omega) | exact (show (7 : Nat) < 256 by decide) | exact (show (11 : Nat) < 256 by decide)), F.aS So⟩
 obtain ⟨tt, rfl⟩ : ∃ t, oo = some t := by
  cases oo with
  | none => exact absurd rfl hsp
  | some t => exact ⟨t, rfl⟩
 replace VA : Row _ _ _ _ _ _ (tt.map bv) := VA;refine au 5 ?_;refine bg rfl rfl ?_;have WH := VA.bs.1;have VW : dr x p ini = oM x jj yy tt := VB
 have VL : Wh ≤ 1048576 := by have := AX (Eq.symm hoo);omega
 refine aU ?_;refine aC func43 rfl (Gj _ VA.bs VA.cap VL) ?_;rintro e w8 ⟨_, rfl, HI, _, ex⟩;obtain ⟨F,B6,Vs,Kj,Ky⟩ := eQ ex F B6 Vs Kj Ky;obtain ⟨i0, i1, i2, i3, i4, rfl, hep, hfz, q0, q1, q2, q3, q4⟩ := HI; have VX : fX w8 (oY i0 (M20.dj tt).1.ctx.ep i1 i2 i3 (M20.dj tt).1.frm i4) (M20.dj tt).1 := ⟨i0, i1, i2, i3, i4, rfl, hep, hfz, q0.1, q1.1, q2.1, q3.1, q4.1⟩; have KI := vN (S := [Vv, Vw]) VX (bV Vs rfl (bV B6 rfl dE)); have KT := fC (S := [Vv, Vw]) q3.1 (bV Vs rfl (bV B6 rfl dE)); have KU := fC (S := [Vv, Vw]) q2.1 (bV Vs rfl (bV B6 rfl dE)); clear VX q0 q1 q2 q3 q4;refine aU ?_;intro _ Vy Vu Vq ex;have VM : Vw < Vy := Nat.lt_of_lt_of_le B6.lt Vq;have VF : Vv < Vy := Nat.lt_of_lt_of_le Vs.lt Vq;replace F := F.grow ex Vq;replace B6 := B6.grow ex Vq;replace Vs := Vs.grow ex Vq;replace Kj := Kj.grow ex Vq;replace Ky := Ky.grow ex Vq;replace KI := KI.grow ex Vq;replace KT := KT.grow ex Vq;replace KU := KU.grow ex Vq;refine aU ?_;intro _ D cg;have ex := aE.one cg;clear cg;obtain ⟨F,B6,Vs,Kj,Ky,KI,KT,KU⟩ := KJ ex F B6 Vs Kj Ky KI KT KU;replace Vu := D; clear D;replace Vu := Vu.congr (cs' := oY i0 (M20.dj tt).1.ctx.ep i1 i2 i3 (M20.dj tt).1.frm i4) rfl;refine aU ?_;refine ak rfl (fun Wi => ?_) (fun Wi => ?_)
 ·have Wj : dr x p ini = (jo.zero, (M20.dj tt).2) := by rw [VW]; unfold oM; rw [if_pos Om]
  refine au 2 ?_;refine al (ar rfl (cells := cE) Kr) ?_;refine aU ?_;intro _ D cg;have ex := aE.one cg;clear cg;replace F := F.bk ex;replace B6 := D; clear D;replace B6 := B6.congr (cs' := cE) rfl;refine aU ?_;refine hret rfl rfl B6 rfl ?_;rw [Wj]; exact ⟨cE, rfl, eL.zero _, (by first | decide | omega | (dsimp only; omega) | exact (show (7 : Nat) < 256 by decide) | exact (show (11 : Nat) < 256 by decide)), F.aS So⟩
 have hz : (M20.dj tt).2 = 0 := by omega
 have hoi := JN hz
 obtain ⟨ii, hii⟩ : ∃ i, i = (M20.dj tt).1 := ⟨_, rfl⟩
 rw [← hii] at hoi KI Vu hep KT KU;have hsm := qM hoi hep;have VY : dr x p ini = if ii.tag ≠ Mac.tag ((eo jj ii.ctx).getD 8 []) ii.ctx.trans then (jo.zero, 16) else (⟨ii, eo jj ii.ctx, yy⟩, 0) := by rw [VW]; unfold oM; rw [if_neg Om, ← hii]
 refine aU ?_;refine aC func41 rfl (DN hj.A hj.n hj.c jj _ ii.ctx _ Kj.out Om (jB.ctx KI.out).at hsm) ?_;rintro e _ ⟨_, rfl, VN, ex⟩;obtain ⟨F,B6,Vs,Ky,KI,KT,KU,Vu⟩ := NZ ex F B6 Vs Ky KI KT KU Vu;obtain ⟨s0, s1, s2, s3, s4, s5, s6, s7, s8, s9, VC, VD, rfl⟩ := VN.form; have KS := rN (S := [Vy, Vv, Vw]) VN (bV Vu rfl (bV Vs rfl (bV B6 rfl dE))); clear VN;refine aU ?_;intro _ VE Vz Vr ex;have VO : Vw < VE := Nat.lt_of_lt_of_le B6.lt Vr;have VG : Vy < VE := Nat.lt_of_lt_of_le Vu.lt Vr;replace F := F.grow ex Vr;replace B6 := B6.grow ex Vr;replace Ky := Ky.grow ex Vr;replace KI := KI.grow ex Vr;replace KT := KT.grow ex Vr;replace KU := KU.grow ex Vr;replace Vu := Vu.grow ex Vr;replace KS := KS.grow ex Vr;refine aU ?_;intro _ D cg;have ex := aE.one cg;clear cg;obtain ⟨F,B6,Ky,KI,KT,KU,Vu,KS⟩ := KJ ex F B6 Ky KI KT KU Vu KS;replace Vz := D; clear D;replace Vz := Vz.congr (cs' := sZ s0 s1 s2 s3 s4 s5 s6 s7 s8 s9 VC VD) rfl;refine aU ?_;refine az Kr 9 rfl ?_; intro Wk ex Wl;obtain ⟨F,B6,Ky,KI,KT,KU,Vu,KS,Vz⟩ := tU ex F B6 Ky KI KT KU Vu KS Vz;refine zm [0, 1, 2, 3, 4, 5] ?_;have l3 := KT.out.1;have WI := KU.out.1;have WO := hoi.2.2.2.1;have WS := hoi.2.2.1;refine bz 6 rfl func45 rfl (GR (sZ s0 s1 s2 s3 s4 s5 s6 s7 s8 s9 VC VD) (eo jj ii.ctx) i2.A i2.n i2.c ii.ctx.trans _ KS.out (by rw [lW]; omega) KU.out Om) ?_;rintro e _ ⟨Wm, Wn, rfl, Wo, ex⟩;obtain ⟨F,B6,Ky,KI,KT,Vu,KS,Vz⟩ := NZ ex F B6 Ky KI KT Vu KS Vz;refine aU ?_;refine bz 7 rfl func44 rfl (xL i3.A Wm i3.n 32 i3.c Wn ii.tag _ _ KT.out Wo Om Om) ?_;rintro e _ ⟨rfl, ex⟩;obtain ⟨F,B6,Ky,KI,Vu,KS,Vz⟩ := iO ex F B6 Ky KI Vu KS Vz;refine zm [8] ?_;refine bB rfl (fun VP => ?_) (fun VP => ?_)
 ·have hne : ii.tag ≠ Mac.tag ((eo jj ii.ctx).getD 8 []) ii.ctx.trans := by simpa using VP
  have Wq : dr x p ini = (jo.zero, 16) := VY.trans (if_pos hne);refine au 2 ?_;refine al (ar rfl (cells := cE) Kr) ?_;refine aU ?_;intro _ D cg;have ex := aE.one cg;clear cg;replace F := F.bk ex;replace B6 := D; clear D;replace B6 := B6.congr (cs' := cE) rfl;refine aU ?_;refine hret rfl rfl B6 rfl ?_;rw [Wq]; exact ⟨cE, rfl, eL.zero _, (by first | decide | omega | (dsimp only; omega) | exact (show (7 : Nat) < 256 by decide) | exact (show (11 : Nat) < 256 by decide)), F.aS So⟩
 have heq : ¬ ii.tag ≠ Mac.tag ((eo jj ii.ctx).getD 8 []) ii.ctx.trans := by simpa using VP
 have Wr : dr x p ini = (⟨ii, eo jj ii.ctx, yy⟩, 0) := VY.trans (if_neg heq);refine au 7 ?_;refine al (ar rfl (cells := EV i0 ii.ctx.ep i1 i2 i3 ii.frm i4 s0 s1 s2 s3 s4 s5 s6 s7 s8 s9 VC VD hy) Kr) ?_;refine aU ?_;intro _ D cg;have ex := aE.one cg;clear cg;obtain ⟨F,Ky,KI,KS⟩ := dF ex F Ky KI KS;replace B6 := D; clear D;replace B6 := B6.congr (cs' := EV i0 ii.ctx.ep i1 i2 i3 ii.frm i4 s0 s1 s2 s3 s4 s5 s6 s7 s8 s9 VC VD hy) rfl;refine aU ?_;refine hret rfl rfl B6 rfl ?_;rw [Wr]; exact ⟨_, rfl, ⟨i0, i1, i2, i3, i4, s0, s1, s2, s3, s4, s5, s6, s7, s8, s9, VC, VD, hy, rfl, KI.out, KS.out, Ky.out⟩, (by first | decide | omega | (dsimp only; omega) | exact (show (7 : Nat) < 256 by decide) | exact (show (11 : Nat) < 256 by decide)), F.aS So⟩
theorem El {α : Type} (p : α → Bool) (l : List α) (k : Nat) (x : α) (hx : l[k]? = some x) : (l.drop k).find? p = if p x = true then some x else (l.drop (k + 1)).find? p := by
 obtain ⟨hk, hx⟩ := List.getElem?_eq_some_iff.1 hx;rw [List.drop_eq_getElem_cons hk, hx];by_cases h : p x = true
 ·rw [List.find?_cons_of_pos h, if_pos h]
 rw [List.find?_cons_of_neg h, if_neg h]
def Td (p : lB → Bool) (l : List lB) (k : Nat) (z : Int) : Prop := (z = -1 ∧ (l.drop k).find? p = none) ∨ ∃ (j : Nat) (g : lB), z = (j : Int) ∧ l[j]? = some g ∧ (l.drop k).find? p = some g
theorem Td.step {p : lB → Bool} {l : List lB} {z : Int} {g : lB} (hg : l[k]? = some g) (H : Td p l (k + 1) z) : Td p l k (if p g = true then (k : Int) else z) := by
 have e := El p l k g hg;by_cases h : p g = true
 ·rw [if_pos h] at e ⊢;exact .inr ⟨k, g, rfl, hg, e⟩
 rw [if_neg h] at e ⊢
 rcases H with ⟨h1, h2⟩ | ⟨j, g', h1, h2, h3⟩
 ·exact .inl ⟨h1, e.trans h2⟩
 exact .inr ⟨j, g', h1, h2, e.trans h3⟩
theorem vu {a b c d e f g h i j k l : Hd} {s : List (List UInt8)} (H : cT w (sZ a b c d e f g h i j k l) s) : Bs w i.A i.n (s.getD 8 []) := by
 obtain ⟨A, n, q, h1, h2⟩ := H.get (i := 8) Om;have Vq : some (Value.slice i.A i.n i.c) = some (.slice A n q) := h1;injection Vq with Vq
 injection Vq with e1 e2 _
 rw [e1, e2]; exact h2
theorem Fz {p : Pack} (w : World) (HW : ka w cs x) (hx : x.Small) (HP : dx w ds p) (hp : p.Small) (HK : qE w es ini b1 b2) (hini : ini.length ≤ 100) :
  Ct 13 #[.agg cs, .agg ds, .agg es] w fun e w' => ∃ cs', e = .returned (.tuple #[.agg cs', .int .i64 (((dr x p ini).2 : Nat) : Int)]) ∧ eL w' cs' (dr x p ini).1 ∧ Ext w w' := by
 have Wb := HW;obtain ⟨h0, h1, rfl, a0, a1, ac⟩ := Wb;have Wc := HP;obtain ⟨i, p0, p1, p2, p4, p5, pg, rfl, hsrc, _⟩ := Wc;have We := HK;obtain ⟨k0, k1, k2, rfl, VS, WX, WY⟩ := We;have WZ := VS.1;have W0 := a0.1;have W3 := a1.1;obtain ⟨W4, VT, W5⟩ := hx
 obtain ⟨pr, hpr⟩ : ∃ pr : lB → Bool, pr = fun g => decide (g.ref = ik p) := ⟨_, rfl⟩
 have F := aE.refl [] w;refine du (s := 20) 128 func13 rfl rfl rfl underlying46 rfl Kr rfl ?_;intro _ hret;refine aU ?_;intro _ Wf B3 _ ex;have W6 := B3.lt;replace F := F.ext ex;refine aU ?_;intro _ _ B4 _ ex;have W9 := B4.lt;obtain ⟨F,B3⟩ := aZ ex F B3;refine aU ?_;intro _ Wg B5 _ ex;have Xa := B5.lt;obtain ⟨F,B3,B4⟩ := bF ex F B3 B4;refine aU ?_;intro _ Vt B6 Vu ex;replace F := F.grow ex Vu;replace B3 := B3.grow ex Vu;replace B4 := B4.grow ex Vu;replace B5 := B5.grow ex Vu;refine aU ?_;have X1 := F.aS So;refine aC func10 rfl (uA _ (HP.ext X1)) ?_;rintro e _ ⟨rfl, ex⟩;obtain ⟨F,B3,B4,B5,B6⟩ := eQ ex F B3 B4 B5 B6;refine aU ?_;refine bB rfl (fun VG => ?_) (fun VG => ?_)
 ·have hno : ¬ dk p := by simpa using VG
  refine au 2 ?_;refine al (ar rfl (cells := cE) Kr) ?_;refine aU ?_;intro _ D cg;have ex := aE.one cg;clear cg;replace F := F.bk ex;replace B6 := D; clear D;replace B6 := B6.congr (cs' := cE) rfl;refine aU ?_;refine hret rfl rfl B6 rfl ?_;rw [sH hno]; exact ⟨cE, rfl, eL.zero _, F.aS So⟩
 have okp : dk p := by simpa using VG
 have X3 := F.aS So;have hwo := rX (x := x) (ini := ini) okp;rw [← hpr] at hwo;refine aU ?_;refine aC func11 rfl (ur _ (HP.ext X3) hp) ?_;rintro e w2 ⟨A8, c8, rfl, H8, ex⟩;obtain ⟨F,B3,B5,B6⟩ := bU ex F B3 B5 B6;have KN := fC (S := [Vt]) H8 (bV B6 rfl dE);refine aU ?_;refine aD (fun n' L wr => ∃ (k : Nat) (z : Int), L = [(3, .pointer (some ⟨Wf, 0, none⟩)), (5, .pointer (some ⟨Wg, 0, none⟩)), (6, .pointer (some ⟨Vt, 0, none⟩)), (8, .slice A8 32 c8), (9, .int .i64 z), (10, .int .i64 ((k : Int) - 1))] ∧ n' = 1 + k ∧ (k ≤ h0.n ∧ Ext w2 wr ∧ Td pr x.guests k z ∧ -1 ≤ z)) _ _ ⟨h0.n, -1, rfl, rfl, Nat.le_refl _, Ext.refl _, .inl ⟨rfl, (by rw [List.drop_of_length_le Om]; rfl)⟩, by omega⟩ Ls ?_;rintro _ n' L wr ⟨k, z, rfl, rfl, _, XE, hF, Wh⟩ VU;obtain ⟨B3,B5,B6,F,KN⟩ := eQ XE B3 B5 B6 F KN;refine aU ?_;refine ak rfl (fun Wi => ?_) (fun Wi => ?_)
 ·obtain ⟨b1, o1, Wj, y, e1, _, hx, hcz, hR, hcx⟩ := (a0.ext (F.aS So) (fun _ _ h => mh.ext h (F.aS So))).Ck Om (i := k - 1) Om;obtain ⟨⟨f0, f1, f2, rfl, VV, VW, VX⟩, VH⟩ := hR;have q2 : f2.n ≤ f2.c := VH _ _ _ rfl;have v0 : Bs _ f0.A f0.n y.ref := VV;have hy := (VT y (List.mem_of_getElem? hx)).1;have Xb := v0.1;have hkk : k - 1 + 1 = k := by omega
  have hst := Td.step hx (by rw [hkk]; exact hF);refine au 9 ?_;refine al (cH (s := 3) (j := k - 1) e1 rfl rfl Tn.u Kr Om Om) ?_;refine au 1 ?_;refine al (af rfl Tn.u rfl (hcx 0 _ rfl)) ?_;refine aU ?_;refine aC func26 rfl (lM v0 KN.out Om Om) ?_;rintro e w5 ⟨rfl, ex⟩;replace XE := XE.ext ex;refine aU ?_;refine ak rfl (fun VI => ?_) (fun VI => ?_)
  ·have hpt : pr y = true := by rw [hpr]; exact decide_eq_true VI
   rw [if_pos hpt] at hst;refine au 11 ?_;refine ae ?_;refine VU _ _ ⟨k - 1, (k : Int) - 1, rfl, rfl, by omega, XE, (by rw [show ((k : Int) - 1) = ((k - 1 : Nat) : Int) by omega]; exact hst), by omega⟩ Om Ls
  refine au 8 ?_;refine ae ?_;refine VU _ _ ⟨k - 1, z, rfl, rfl, by omega, XE, (by rw [if_neg (show ¬ pr y = true from by rw [hpr]; simpa using VI)] at hst; exact hst), Wh⟩ Om Ls
 obtain rfl : k = 0 := by omega
 refine aU ?_;refine ak rfl (fun Wk => ?_) (fun Wk => ?_)
 ·have hnone : x.guests.find? pr = none := by
   rcases hF with ⟨_, h⟩ | ⟨j, g, h1, _⟩
   ·exact h
   omega
  have Wl : dr x p ini = (jo.zero, 7) := by rw [hwo, hnone]; rfl
  refine au 2 ?_;refine al (ar rfl (cells := cE) Kr) ?_;refine aU ?_;intro _ D cg;have ex := aE.one cg;clear cg;replace F := F.bk ex;replace B6 := D; clear D;replace B6 := B6.congr (cs' := cE) rfl;refine aU ?_;refine hret rfl rfl B6 rfl ?_;rw [Wl]; exact ⟨cE, rfl, eL.zero _, F.aS So⟩
 refine aU ?_;refine az Kr 24 rfl ?_; intro Wm ex Wn;obtain ⟨B3,B5,B6,F⟩ := bU ex B3 B5 B6 F
 obtain ⟨j, gg, rfl, hj, hfd⟩ : ∃ (j : Nat) (g : lB), z = (j : Int) ∧ x.guests[j]? = some g ∧ x.guests.find? pr = some g := by
  rcases hF with ⟨h, _⟩ | h
  ·omega
  exact h
 have hwb : dr x p ini = rr x ini gg := by rw [hwo, hfd]; rfl
 have VC := F.aS So;have hjn : j < h0.n := by have := (List.getElem?_eq_some_iff.1 hj).1; omega
 obtain ⟨b1, o1, Wj, y, e1, _, VY, hcz, hR, hcx⟩ := (a0.ext VC (fun _ _ h => mh.ext h VC)).Ck Om (i := j) hjn;obtain rfl : gg = y := by rw [hj] at VY; injection VY
 obtain ⟨⟨f0, f1, f2, rfl, VV, VW, VX⟩, VH⟩ := hR;have q2 : f2.n ≤ f2.c := VH _ _ _ rfl;have v1 : Bs _ f1.A f1.n gg.enc := VW;have v2 : Bs _ f2.A f2.n gg.box := VX;have hgs := VT gg (List.mem_of_getElem? hj);have lga := v1.1;have lgb := v2.1;have VZ := hgs.2.2;refine zm [0, 1, 2, 3, 4] ?_;refine my 5 rfl (cH (s := 3) (j := j) e1 rfl rfl Tn.u Kr rfl hjn) ?_;refine zm [6, 7] ?_;refine my 8 rfl (af rfl Tn.u rfl (hcx 1 _ rfl)) ?_;refine zm [9, 10, 11, 12, 13] ?_;refine my 14 rfl (cH (s := 3) (j := j) e1 rfl rfl Tn.u Kr rfl hjn) ?_;refine zm [15, 16] ?_;refine my 17 rfl (af rfl Tn.u rfl (hcx 2 _ rfl)) ?_;refine bz 18 rfl func38 rfl (sN k0.A f1.A h1.A f2.A jI k0.n k0.c f1.n f1.c h1.n h1.c f2.n f2.c ini gg.enc x.info gg.box _ pW (Bs.ext VS VC) Om v1 (by have := hgs.2.1; omega) (Bs.ext a1 VC) Om v2 Om q2) ?_;rintro e _ ⟨_, _, _, rfl, Vz, _, VJ, _, ex⟩;obtain ⟨B3,B6,F⟩ := bF ex B3 B6 F;refine zm [19, 20, 21, 22, 23] ?_;refine ak rfl (fun Wo => ?_) (fun Wo => ?_)
 ·have e9 : dr x p ini = (jo.zero, (op ini gg.enc (Hk.info jI x.info) gg.box []).2) := hwb.trans (show rr x ini gg = _ from by unfold rr; rw [if_pos Om]);refine au 2 ?_;refine al (ar rfl (cells := cE) Kr) ?_;refine aU ?_;intro _ D cg;have ex := aE.one cg;clear cg;replace F := F.bk ex;replace B6 := D; clear D;replace B6 := B6.congr (cs' := cE) rfl;refine aU ?_;refine hret rfl rfl B6 rfl ?_;rw [e9]; exact ⟨cE, rfl, eL.zero _, F.aS So⟩
 have VK : dr x p ini = qP x (op ini gg.enc (Hk.info jI x.info) gg.box []).1 := hwb.trans (show rr x ini gg = _ from by unfold rr; rw [if_neg Om])
 obtain ⟨tx, htx⟩ : ∃ t, t = (op ini gg.enc (Hk.info jI x.info) gg.box []).1 := ⟨_, rfl⟩
 rw [← htx] at VK Vz;refine aU ?_;refine aC func46 rfl (tp _ Vz VJ Om) ?_;rintro e _ ⟨hq, hy, rfl, Sj, Sy, ex⟩;obtain ⟨B3,B6,F,Vz⟩ := bU ex B3 B6 F Vz;have Hj := Sj _ Vz; have Hy := Sy _ Vz; have Kj := fC (S := [Vt]) Hj (bV B6 rfl dE); have Ky := fC (S := [Vt]) Hy (bV B6 rfl dE); have lj := Hj.1; have ly := Hy.1;refine aU ?_;refine ak rfl (fun Wq => ?_) (fun Wq => ?_)
 ·have Wr : dr x p ini = (jo.zero, (M20.dI tx).2) := by rw [VK]; unfold qP; rw [if_pos Om]
  refine au 2 ?_;refine al (ar rfl (cells := cE) Kr) ?_;refine aU ?_;intro _ D cg;have ex := aE.one cg;clear cg;replace F := F.bk ex;replace B6 := D; clear D;replace B6 := B6.congr (cs' := cE) rfl;refine aU ?_;refine hret rfl rfl B6 rfl ?_;rw [Wr]; exact ⟨cE, rfl, eL.zero _, F.aS So⟩
 have V0 : dr x p ini = EK x (M20.dI tx).1.1 (M20.dI tx).1.2.2 := by rw [VK]; unfold qP; rw [if_neg Om]
 have hok := Cp (t := tx) Om
 obtain ⟨jj, hjj⟩ : ∃ j, j = (M20.dI tx).1.1 := ⟨_, rfl⟩
 obtain ⟨yy, hyy⟩ : ∃ y, y = (M20.dI tx).1.2.2 := ⟨_, rfl⟩
 rw [← hjj, ← hyy] at V0 hok;rw [← hjj] at Kj lj;rw [← hyy] at Ky ly;have Ws := hok.1
 obtain ⟨oo, hoo⟩ : ∃ o, o = Gm.Aw (Kdf.label (ln jj) sn.data.toList [] 16) (Kdf.label (ln jj) jl.data.toList [] 12) x.info [] := ⟨_, rfl⟩
 have VA : dr x p ini = Qd x jj yy oo := by rw [V0]; unfold EK; rw [← hoo]
 refine aU ?_;refine aC func48 rfl (lS hq.A hq.n hq.c jj _ Kj.out Om) ?_;rintro e w5 ⟨Ww, Wx, rfl, Wy, ex⟩;obtain ⟨B3,B6,F,Kj,Ky⟩ := eQ ex B3 B6 F Kj Ky;refine aU ?_;refine aC func47 rfl (dN Ww none 32 Wx 0 0 32 jh _ [] _ Wy Om (by decide) (Bs.nil _ _) Om Om) ?_;rintro e _ ⟨VL, V4, rfl, Vw, ex⟩;obtain ⟨B3,B6,F,Kj,Ky⟩ := eQ ex B3 B6 F Kj Ky;replace Vw : Bs _ VL 32 (ln jj) := Vw;refine aU ?_;refine az Kr 12 rfl ?_; intro Wz ex WA;obtain ⟨B3,B6,F,Kj,Ky,Vw⟩ := iJ ex B3 B6 F Kj Ky Vw;refine zm [0, 2, 4, 5] ?_;refine bz 1 rfl func47 rfl (dN VL none 32 V4 0 0 16 sn _ [] _ Vw Om (by decide) (Bs.nil _ _) Om Om) ?_;rintro e w7 ⟨_, _, rfl, VM, ex⟩;obtain ⟨B6,F,Kj,Ky,Vw⟩ := eQ ex B6 F Kj Ky Vw;refine aU ?_;refine bz 3 rfl func47 rfl (dN VL none 32 V4 0 0 12 jl _ [] _ Vw Om (by decide) (Bs.nil _ _) Om Om) ?_;rintro e w7 ⟨_, _, rfl, WB, ex⟩;obtain ⟨B6,F,Kj,Ky,VM⟩ := eQ ex B6 F Kj Ky VM;refine aU ?_;have WD := F.aS So;refine bz 6 rfl func42 rfl (pO _ VM WB (Bs.ext a1 WD) Om ac (Bs.nil _ none) (Nat.zero_le _) (Nat.zero_le _)) ?_;rintro e w8 ⟨_, WE, _, rfl, Vx, ex⟩;refine au 1 ?_;obtain ⟨B6,F,Kj,Ky⟩ := bU ex B6 F Kj Ky;rw [← hoo] at Vx ⊢;refine Gh [7, 8, 9, 10, 11] ?_;refine au 11 ?_;by_cases hsp : oo = none
 ·subst hsp;refine au 5 ?_;refine bX rfl rfl ?_;refine au 2 ?_;refine al (ar rfl (cells := cE) Kr) ?_;refine aU ?_;intro _ D cg;have ex := aE.one cg;clear cg;replace F := F.bk ex;replace B6 := D; clear D;replace B6 := B6.congr (cs' := cE) rfl;refine aU ?_;refine hret rfl rfl B6 rfl ?_;rw [VA]; exact ⟨cE, rfl, eL.zero _, F.aS So⟩
 obtain ⟨tt, rfl⟩ : ∃ t, oo = some t := by
  cases oo with
  | none => exact absurd rfl hsp
  | some t => exact ⟨t, rfl⟩
 replace Vx : Row _ _ _ _ _ _ (tt.map bv) := Vx;refine au 5 ?_;refine bg rfl rfl ?_;have Xc := Vx.bs.1;have V5 : dr x p ini = oM x jj yy tt := VA
 have VN : WE ≤ 10000 := by have := AX (Eq.symm hoo);omega
 refine aU ?_;refine aC func49 rfl (zu _ Vx.bs Vx.cap VN) ?_;rintro e w8 ⟨_, rfl, HI, ex⟩;obtain ⟨B6,F,Kj,Ky⟩ := bU ex B6 F Kj Ky;have RB := Vx.bs.ext ex; obtain ⟨i0, i1, i2, i3, i4, rfl, hep, hfz, q0, q1, q2, q3, q4⟩ := HI; have V6 : fX w8 (oY i0 (M20.dj tt).1.ctx.ep i1 i2 i3 (M20.dj tt).1.frm i4) (M20.dj tt).1 := ⟨i0, i1, i2, i3, i4, rfl, hep, hfz, q0 _ RB, q1 _ RB, q2 _ RB, q3 _ RB, q4 _ RB⟩; have KI := vN (S := [Vt]) V6 (bV B6 rfl dE); have KT := fC (S := [Vt]) (q3 _ RB) (bV B6 rfl dE); have KU := fC (S := [Vt]) (q2 _ RB) (bV B6 rfl dE); clear V6 q0 q1 q2 q3 q4;refine aU ?_;intro _ Vy Vs Vr ex;have VO : Vt < Vy := Nat.lt_of_lt_of_le B6.lt Vr;replace B6 := B6.grow ex Vr;replace F := F.grow ex Vr;replace Kj := Kj.grow ex Vr;replace Ky := Ky.grow ex Vr;replace KI := KI.grow ex Vr;replace KT := KT.grow ex Vr;replace KU := KU.grow ex Vr;refine aU ?_;intro _ D cg;have ex := aE.one cg;clear cg;obtain ⟨B6,F,Kj,Ky,KI,KT,KU⟩ := Mv ex B6 F Kj Ky KI KT KU;replace Vs := D; clear D;replace Vs := Vs.congr (cs' := oY i0 (M20.dj tt).1.ctx.ep i1 i2 i3 (M20.dj tt).1.frm i4) rfl;refine aU ?_;refine ak rfl (fun WG => ?_) (fun WG => ?_)
 ·have WH : dr x p ini = (jo.zero, (M20.dj tt).2) := by rw [V5]; unfold oM; rw [if_pos Om]
  refine au 2 ?_;refine al (ar rfl (cells := cE) Kr) ?_;refine aU ?_;intro _ D cg;have ex := aE.one cg;clear cg;replace F := F.bk ex;replace B6 := D; clear D;replace B6 := B6.congr (cs' := cE) rfl;refine aU ?_;refine hret rfl rfl B6 rfl ?_;rw [WH]; exact ⟨cE, rfl, eL.zero _, F.aS So⟩
 have hz : (M20.dj tt).2 = 0 := by omega
 have hoi := JN hz
 obtain ⟨ii, hii⟩ : ∃ i, i = (M20.dj tt).1 := ⟨_, rfl⟩
 rw [← hii] at hoi KI Vs hep KT KU;have hsm := qM hoi hep;have V9 : dr x p ini = if ii.tag ≠ Mac.tag ((eo jj ii.ctx).getD 8 []) ii.ctx.trans then (jo.zero, 16) else (⟨ii, eo jj ii.ctx, yy⟩, 0) := by rw [V5]; unfold oM; rw [if_neg Om, ← hii]
 refine aU ?_;refine aC func17 rfl (Ak hq.A hq.n hq.c jj _ ii.ctx _ Kj.out Om (jB.ctx KI.out).at hsm) ?_;rintro e _ ⟨_, rfl, VP, ex⟩;obtain ⟨B6,F,Ky,KI,KT,KU,Vs⟩ := iO ex B6 F Ky KI KT KU Vs;obtain ⟨s0, s1, s2, s3, s4, s5, s6, s7, s8, s9, VD, VE, rfl⟩ := VP.form; have KS := rN (S := [Vy, Vt]) VP (bV Vs rfl (bV B6 rfl dE)); clear VP;refine aU ?_;intro _ VB Vv Vq ex;have VQ : Vt < VB := Nat.lt_of_lt_of_le B6.lt Vq;have VF : Vy < VB := Nat.lt_of_lt_of_le Vs.lt Vq;replace B6 := B6.grow ex Vq;replace F := F.grow ex Vq;replace Ky := Ky.grow ex Vq;replace KI := KI.grow ex Vq;replace KT := KT.grow ex Vq;replace KU := KU.grow ex Vq;replace Vs := Vs.grow ex Vq;replace KS := KS.grow ex Vq;refine aU ?_;intro _ D cg;have ex := aE.one cg;clear cg;obtain ⟨B6,F,Ky,KI,KT,KU,Vs,KS⟩ := KJ ex B6 F Ky KI KT KU Vs KS;replace Vv := D; clear D;replace Vv := Vv.congr (cs' := sZ s0 s1 s2 s3 s4 s5 s6 s7 s8 s9 VD VE) rfl;refine aU ?_;refine az Kr 10 rfl ?_; intro WI ex WO;obtain ⟨B6,F,Ky,KI,KT,KU,Vs,KS,Vv⟩ := tU ex B6 F Ky KI KT KU Vs KS Vv;refine zm [0, 1, 2, 3, 4, 5, 6] ?_;have l3 := KT.out.1;have Xd := KU.out.1;have Xe := hoi.2.2.2.1;have Xf := hoi.2.2.1;have Wa := vu KS.out;have l8 := Wa.1;rw [lW] at l8;refine bz 7 rfl func18 rfl (kf s8.A i2.A s8.n s8.c i2.n i2.c _ ii.ctx.trans _ Wa Om KU.out Om) ?_;rintro e _ ⟨_, WS, rfl, WT, ex⟩;refine aU ?_;obtain ⟨B6,F,Ky,KI,KT,Vs,KS,Vv⟩ := NZ ex B6 F Ky KI KT Vs KS Vv;have WU := WT.bs;refine bz 8 rfl func26 rfl (lM (c := i3.c) (d := WS) KT.out WU Om Om) ?_;rintro e _ ⟨rfl, ex⟩;obtain ⟨B6,F,Ky,KI,Vs,KS,Vv⟩ := iO ex B6 F Ky KI Vs KS Vv;refine zm [9] ?_;refine bB rfl (fun VR => ?_) (fun VR => ?_)
 ·have hne : ii.tag ≠ Mac.tag ((eo jj ii.ctx).getD 8 []) ii.ctx.trans := by simpa using VR
  have WV : dr x p ini = (jo.zero, 16) := V9.trans (if_pos hne);refine au 2 ?_;refine al (ar rfl (cells := cE) Kr) ?_;refine aU ?_;intro _ D cg;have ex := aE.one cg;clear cg;replace F := F.bk ex;replace B6 := D; clear D;replace B6 := B6.congr (cs' := cE) rfl;refine aU ?_;refine hret rfl rfl B6 rfl ?_;rw [WV]; exact ⟨cE, rfl, eL.zero _, F.aS So⟩
 have heq : ¬ ii.tag ≠ Mac.tag ((eo jj ii.ctx).getD 8 []) ii.ctx.trans := by simpa using VR
 have WW : dr x p ini = (⟨ii, eo jj ii.ctx, yy⟩, 0) := V9.trans (if_neg heq);refine au 7 ?_;refine al (ar rfl (cells := EV i0 ii.ctx.ep i1 i2 i3 ii.frm i4 s0 s1 s2 s3 s4 s5 s6 s7 s8 s9 VD VE hy) Kr) ?_;refine aU ?_;intro _ D cg;have ex := aE.one cg;clear cg;obtain ⟨F,Ky,KI,KS⟩ := dF ex F Ky KI KS;replace B6 := D; clear D;replace B6 := B6.congr (cs' := EV i0 ii.ctx.ep i1 i2 i3 ii.frm i4 s0 s1 s2 s3 s4 s5 s6 s7 s8 s9 VD VE hy) rfl;refine aU ?_;refine hret rfl rfl B6 rfl ?_;rw [WW]; exact ⟨_, rfl, ⟨i0, i1, i2, i3, i4, s0, s1, s2, s3, s4, s5, s6, s7, s8, s9, VD, VE, hy, rfl, KI.out, KS.out, Ky.out⟩, F.aS So⟩
theorem sw : kg.zero.Small := ⟨by decide, (fun g h => by cases h), by decide⟩
theorem Iy : ¬ dk Pack.zero := by decide
theorem yL : Pack.zero.Small := by refine ⟨by decide, by decide, ?_⟩; decide
theorem LZ (w : World) : dx w (dH an an an an 0 an an an) Pack.zero := ⟨an, an, an, an, an, an, an, rfl, by decide, Bs.nil _ _, Bs.nil _ _, Bs.nil _ _, Bs.nil _ _, Bs.nil _ _, Bs.nil _ _, Bs.nil _ _⟩
theorem Be {p : Pack} (h : dk p) : dr kg.zero p ini = (jo.zero, 7) := by rw [rX h]; rfl
theorem xx (w : World) : Ct 7 #[] w fun e w' => e = .returned (.bool true) ∧ Ext w w' := by have F := aE.refl [] w;refine ai 42 func7 rfl rfl rfl rfl ?_;intro _ hret;refine aU ?_;refine ag (aF (z := .int .u8 0) Tn.u Kr rfl rfl rfl rfl rfl) rfl ?_;rintro _ _ ⟨_, rfl, D1, _, ex⟩;replace F := F.ext ex;have H1 := bh (xs := [1]) (D1.congr rfl) rfl;refine aC func28 rfl (mB 1 Om _) ?_;rintro e _ ⟨_, rfl, H2, _, ex⟩;refine aU ?_;replace F := F.ext ex;have Vx := H1.ext ex;refine aC func27 rfl (Gc _ Vx Om Om H2) ?_;rintro e w3 ⟨cs, _, rfl, HP, HK, ex⟩;replace F := F.ext ex;have Vy := HP; obtain ⟨i, p0, p1, p2, p4, p5, pg, rfl, hsrc, _⟩ := Vy; have Vz := HK; obtain ⟨k0, k1, k2, rfl, _⟩ := Vz; have C3 := aE.refl [] w3; have z3 := F.size;refine aU ?_;intro _ VA B1 Vs ex;have VC := ex.size;replace F := F.grow ex Vs;replace C3 := C3.grow ex Vs;refine aU ?_;intro _ Vu B2 Vq ex;have Vv : VA < Vu := Nat.lt_of_lt_of_le B1.lt Vq;replace F := F.grow ex Vq;replace C3 := C3.grow ex Vq;replace B1 := B1.grow ex Vq;refine aU ?_;intro _ D cg;have ex := aE.one cg;clear cg;obtain ⟨F,C3,B2⟩ := sh ex F C3 B2;replace B1 := D; clear D;replace B1 := B1.congr (cs' := dH i p0 p1 p2 (RA [1] (qZ 1)).leaf.src p4 p5 pg) rfl;refine aU ?_;intro _ D cg;have ex := aE.one cg;clear cg;obtain ⟨F,C3,B1⟩ := sh ex F C3 B1;replace B2 := D; clear D;replace B2 := B2.congr (cs' := fx k0 k1 k2) rfl;refine au 5 ?_;refine al (ar rfl (cells := fK an an) Kr) ?_;refine aU ?_;have X2 := C3.aS So;have okp := vZ (ident := [1]) (qZ 1) (by decide) (by decide);have hl := dO (wv (qZ 1));refine aC func12 rfl (pV (cs := fK an an) _ (mF _) sw (HP.ext X2) (fA okp) (HK.ext X2) Om) ?_;rintro e _ ⟨_, rfl, G4, _, ex⟩;refine au 1 ?_;obtain ⟨F,C3,B2⟩ := bF ex F C3 B2;rw [Be okp] at G4 ⊢; obtain ⟨_, _, _, _, _, _, _, _, _, _, _, _, _, _, _, _, _, _, rfl, _⟩ := G4; have z4 := F.size;refine aU ?_;intro _ VB _ Vr ex;have Vw : Vu < VB := Nat.lt_of_lt_of_le B2.lt Vr;replace F := F.grow ex Vr;replace C3 := C3.grow ex Vr;replace B2 := B2.grow ex Vr;refine aU ?_;intro _ D cg;have ex := aE.one cg;clear cg;obtain ⟨F,C3,B2⟩ := sh ex F C3 B2;clear D;refine au 5 ?_;refine al (ar rfl (cells := fK an an) Kr) ?_;refine al (ar rfl (cells := dH an an an an 0 an an an) Kr) ?_;refine aU ?_;have X3 := C3.aS So;refine aC func12 rfl (pV (cs := fK an an) (ds := dH an an an an 0 an an an) _ (mF _) sw (LZ _) yL (HK.ext X3) Om) ?_;rintro e _ ⟨_, rfl, G5, _, ex⟩;refine au 1 ?_;replace F := F.ext ex;rw [sH Iy] at G5 ⊢; obtain ⟨_, _, _, _, _, _, _, _, _, _, _, _, _, _, _, _, _, _, rfl, _⟩ := G5; have z5 := F.size;refine aU ?_;intro _ _ _ Vt ex;replace F := F.grow ex Vt;refine aU ?_;intro _ D cg;have ex := aE.one cg;clear cg;replace F := F.bk ex;clear D;refine au 6 ?_;refine al (bo rfl Tn.u Tn.u (show _ = (0 : Int) from rfl)) ?_;refine au 3 ?_;refine pt 32 (bo rfl Tn.u Tn.u (show _ = (7 : Int) from rfl)) ?_;refine au 4 ?_;refine pt 37 (bo rfl Tn.u Tn.u (show _ = (3 : Int) from rfl)) ?_;refine aU ?_;refine hret rfl ?_;exact ⟨rfl, F.aS So⟩
def jo.Fit (x : jo) : Prop := x.info.Fit ∧ (∀ s ∈ x.secs, s.length ≤ 1000000) ∧ x.way.length ≤ 1000000
theorem jo.gv : jo.zero.Fit := ⟨⟨by decide, by decide, by decide, by decide, by decide⟩, (fun s hs => by rw [List.eq_of_mem_replicate hs]; exact Nat.zero_le _), Nat.zero_le _⟩
theorem Fh {c : Ctx} (hj : j.length ≤ 1000000) : ∀ s ∈ eo j c, s.length ≤ 1000000 := fun s hs => by
 unfold eo at hs;simp only [List.cons_append, List.nil_append, List.mem_cons, List.mem_map] at hs
 rcases hs with rfl | rfl | rfl | ⟨i, _, rfl⟩
 ·exact hj
 ·rw [dK]; omega
 ·unfold sM; rw [dK]; omega
 unfold tB; rw [dK]; omega
theorem Fy (ht : t.length ≤ 10000) : (M20.dj t).1.Fit := by
 unfold M20.dj M20.db;split
 ·exact jo.gv.1
 split
 ·exact ND (s := .ok t) ht
 exact jo.gv.1
theorem Ge {p : Pack} (hx : x.info.length ≤ 10000) : (dr x p ini).1.Fit := by
  unfold dr;split
  · exact jo.gv
  cases x.guests.find? fun g => decide (g.ref = ik p) with
  | none => exact jo.gv
  | some g =>
    show (rr x ini g).1.Fit
    unfold rr
    split
    · exact jo.gv
    unfold qP
    split
    · exact jo.gv
    rename_i h1 h2
    have ok := Cp (Classical.byContradiction h2)
    unfold EK
    cases h : Gm.Aw (Kdf.label (ln (M20.dI (op ini g.enc (Hk.info jI x.info) g.box []).1).1.1) sn.data.toList [] 16) (Kdf.label (ln (M20.dI (op ini g.enc (Hk.info jI x.info) g.box []).1).1.1) jl.data.toList [] 12) x.info [] with
    | none => exact jo.gv
    | some t =>
      have ht := AX h
      show (oM x _ _ t).1.Fit
      unfold oM
      split
      · exact jo.gv
      split
      · exact jo.gv
      have o1 := ok.1
      have o2 := ok.2
      exact ⟨Fy Om, Fh (by rw [o1]; omega), by show (M20.dI (op ini g.enc (Hk.info jI x.info) g.box []).1).1.2.2.length ≤ 1000000; omega⟩
theorem EY {x : jo} (w : World) (H : eL w cs x) (K : eL w ds x) (hf : x.Fit) :
  Ct 14 #[.agg cs, .agg ds] w fun e w' => e = .returned (.bool true) ∧ Ext w w' := by
 obtain ⟨i0, i1, i2, i3, i4, s0, s1, s2, s3, s4, s5, s6, s7, s8, s9, Vq, Vr, y, rfl, hI, hS, hY⟩ := H;obtain ⟨j0, j1, j2, j3, j4, t0, t1, t2, t3, t4, t5, t6, t7, t8, t9, t10, t11, z, rfl, kI, kS, kY⟩ := K;have E := Ext.refl w;have ly := hY.1; have lz := kY.1; have h3 := hf.2.2;refine ai 24 func14 rfl rfl rfl rfl ?_;intro _ hret;refine aU ?_;intro _ _ B2 _ ex;replace E := E.ext ex;refine aU ?_;intro _ _ B3 _ ex;obtain ⟨E,B2⟩ := aZ ex E B2;refine aU ?_;refine aC func24 rfl (xO _ (hI.ext E) (kI.ext E) hf.1 hf.1) ?_;rintro e _ ⟨rfl, ex⟩;refine au 1 ?_;obtain ⟨E,B2,B3⟩ := bF ex E B2 B3;rw [decide_eq_true rfl];refine aU ?_;refine fJ 10 rfl rfl func25 rfl rfl rfl (BY _ _ _ _ _ (hS.ext E) (kS.ext E) hf.2.1 hf.2.1) rfl ?_;rintro e _ ⟨rfl, ex⟩;refine au 1 ?_;obtain ⟨E,B2,B3⟩ := bF ex E B2 B3;rw [decide_eq_true rfl];refine aU ?_;refine fJ 17 rfl rfl func26 rfl rfl rfl (lM (c := y.c) (d := z.c) (Bs.ext hY E) (Bs.ext kY E) Om Om) rfl ?_;rintro e _ ⟨rfl, ex⟩;refine au 1 ?_;replace E := E.ext ex;rw [decide_eq_true rfl];refine aU ?_;refine hret rfl ?_;exact ⟨rfl, E⟩
theorem yX (B : Oa) (m d : Nat) (s : ByteArray) (cs : Lb) (w : World) (HB : Bs w B m cs) (hs : s.size ≤ 1048576) (hm : m ≤ 1048576) :
  Ct 34 #[.string s, .slice B m d] w fun e w' => ∃ A' c', e = .returned (.slice A' 32 c') ∧ Row w' w.heap.size 5 A' 32 c' ((Sha.sum (Wire.vec s.data.toList ++ Wire.vec cs)).map bv) ∧ Ext w w' := by
 have E := Ext.refl w;have Vs := Wire.bE s.size; have Vt := Wire.bE m;refine ai 12 func34 rfl rfl rfl rfl ?_;intro _ hret;refine aU ?_;refine ag (pJ rfl Tn.u Tn.u Tn.u) rfl ?_;rintro _ _ ⟨_, c2, rfl, H2, _, ex⟩;obtain ⟨HB,E⟩ := aZ ex HB E;have Vq := E.size;refine aC func54 rfl (cI _ _ c2 _ _ H2 Om) ?_;rintro e _ ⟨_, _, _, rfl, R3, _, ex⟩;obtain ⟨HB,E⟩ := aZ ex HB E;replace R3 := R3.lower Vq;refine aU ?_;refine aC func54 rfl (cI B m d cs _ HB Om) ?_;rintro e _ ⟨_, _, _, rfl, R4, _, ex⟩;refine aU ?_;obtain ⟨E,R3⟩ := aZ ex E R3;have H4 := R4.bs; have Vr := E.size;refine ag (aX rfl rfl bT R3 H4.2 (by rw [List.length_map, H4.1]) aJ Om Om Vr) rfl ?_;rintro _ w5 ⟨A5, c5, rfl, R5, be, _, _⟩;have E5 := E.trans be; have H5 := R5.cat.bs;refine aC func52 rfl (fT A5 _ c5 _ _ H5 Om) ?_;rintro e w6 ⟨A6, c6, rfl, O6, ex⟩;have E6 := E5.ext ex; have R6 : Row w6 w5.heap.size 5 A6 32 c6 _ := O6;refine aU ?_;refine hret rfl ?_;exact ⟨_, _, rfl, R6.lower E5.size, E6⟩
theorem tP {p : Pack} (w : World) (H : dx w cs p) (Vq : p.Small) :
  Ct 11 #[.agg cs] w fun e w' => ∃ A' c', e = .returned (.slice A' 32 c') ∧ Row w' w.heap.size 5 A' 32 c' ((ik p).map bv) ∧ Ext w w' := by
 have HP := H;have hl := za Vq;obtain ⟨i, h0, h1, h2, h4, h5, gg, rfl, hs, a, b0, b1, b2, b4, b5, c⟩ := H;have E := Ext.refl w;refine ai 6 func11 rfl rfl rfl rfl ?_;intro _ hret;refine aU ?_;intro _ _ _ _ ex;replace E := E.ext ex;refine aU ?_;refine aC func35 rfl (mi _ (HP.ext E) Vq) ?_;rintro e _ ⟨A2, k2, c2, rfl, R2, ex⟩;refine aU ?_;replace E := E.ext ex;have Vr := R2.bs.1; have z2 := E.size;refine aC func34 rfl (yX A2 k2 c2 xS _ _ R2.bs nS Om) ?_;rintro e _ ⟨A3, c3, rfl, R3, ex⟩;replace E := E.ext ex;refine aU ?_;refine hret rfl ?_;exact ⟨A3, c3, rfl, R3.lower z2, E⟩
end Go.Proofs.YtgfafidlkldeaaaGreat
