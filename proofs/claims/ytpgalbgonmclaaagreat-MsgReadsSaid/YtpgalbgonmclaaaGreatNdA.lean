/- Leaves, parents and nodes of a tree, plainly and in memory; whether they are right: what node and the reference answer. -/
import Derived.Test.YtpgalbgonmclaaaGreatWireR
import Derived.Test.YtpgalbgonmclaaaGreatKdfB
namespace Go.Proofs.YtpgalbgonmclaaaGreat
open Go.RowKit
attribute [local irreducible] Y Ef WL WC WK WQ WM OpM WN WF OpN
theorem sm_any {A B : Option Addr} {n m c d : Nat} {xs ys : List UInt8} {w : World} (ha : Bs w A n xs) (hb : Bs w B m ys) (hn : n ≤ 140737488355328) (hm : m ≤ 140737488355328) :
    Calls Tryz.prog 28 #[.slice A n c, .slice B m d] w fun e w' => e = .returned (.bool (decide (xs = ys))) ∧ Ext w w' :=
  (same_any A B n m c d xs ys w ha hb hn hm).mono fun _ _ ⟨h1, k, h2⟩ => ⟨h1, by rw [h2]; exact Ext.drewN _ _⟩
structure Leaf where
  box : List UInt8
  sign : List UInt8
  ident : List UInt8
  src : Nat
  parent : List UInt8
  sig : List UInt8
structure Par where
  box : List UInt8
  hash : List UInt8
  late : List Int
structure Node where
  kind : Nat
  leaf : Leaf
  par : Par
def Leaf.zero : Leaf := ⟨[], [], [], 0, [], []⟩
def Par.zero : Par := ⟨[], [], []⟩
def Node.zero : Node := ⟨0, Leaf.zero, Par.zero⟩
/-- A slice's three parts. -/
structure Hd where
  A : Option Addr
  n : Nat
  c : Nat
def nilH : Hd := ⟨none, 0, 0⟩
def leafV (h0 h1 h2 : Hd) (s : Nat) (h4 h5 : Hd) : Array Value := #[.slice h0.A h0.n h0.c, .slice h1.A h1.n h1.c, .slice h2.A h2.n h2.c, .int .u8 (s : Int), .slice h4.A h4.n h4.c, .slice h5.A h5.n h5.c]
def parV (h0 h1 h2 : Hd) : Array Value := #[.slice h0.A h0.n h0.c, .slice h1.A h1.n h1.c, .slice h2.A h2.n h2.c]
def nodeV (k : Nat) (h0 h1 h2 : Hd) (s : Nat) (h4 h5 p0 p1 p2 : Hd) : Array Value := #[.int .u8 (k : Int), .slice h0.A h0.n h0.c, .slice h1.A h1.n h1.c, .slice h2.A h2.n h2.c, .int .u8 (s : Int), .slice h4.A h4.n h4.c, .slice h5.A h5.n h5.c, .slice p0.A p0.n p0.c, .slice p1.A p1.n p1.c, .slice p2.A p2.n p2.c]
/-- A struct's cells, with what each field is said to be. -/
def LeafC (B : Hd → List UInt8 → Prop) (cs : Array Value) (l : Leaf) : Prop := ∃ h0 h1 h2 h4 h5, cs = leafV h0 h1 h2 l.src h4 h5 ∧ l.src < 256 ∧ B h0 l.box ∧ B h1 l.sign ∧ B h2 l.ident ∧ B h4 l.parent ∧ B h5 l.sig
def ParC (B : Hd → List UInt8 → Prop) (Z : Hd → List Int → Prop) (cs : Array Value) (p : Par) : Prop := ∃ h0 h1 h2, cs = parV h0 h1 h2 ∧ B h0 p.box ∧ B h1 p.hash ∧ Z h2 p.late
def NodeC (B : Hd → List UInt8 → Prop) (Z : Hd → List Int → Prop) (cs : Array Value) (n : Node) : Prop :=
  ∃ h0 h1 h2 h4 h5 p0 p1 p2, cs = nodeV n.kind h0 h1 h2 n.leaf.src h4 h5 p0 p1 p2 ∧ n.kind < 256 ∧ n.leaf.src < 256 ∧ B h0 n.leaf.box ∧ B h1 n.leaf.sign ∧ B h2 n.leaf.ident ∧ B h4 n.leaf.parent ∧ B h5 n.leaf.sig ∧ B p0 n.par.box ∧ B p1 n.par.hash ∧ Z p2 n.par.late
section
variable {B B' : Hd → List UInt8 → Prop} {Z Z' : Hd → List Int → Prop} {cs : Array Value} {l : Leaf} {p : Par} {n : Node}
theorem LeafC.imp (h : LeafC B cs l) (f : ∀ h xs, B h xs → B' h xs) : LeafC B' cs l := by
  obtain ⟨h0, h1, h2, h4, h5, e, hs, b0, b1, b2, b4, b5⟩ := h
  exact ⟨h0, h1, h2, h4, h5, e, hs, f _ _ b0, f _ _ b1, f _ _ b2, f _ _ b4, f _ _ b5⟩
theorem ParC.imp (h : ParC B Z cs p) (f : ∀ h xs, B h xs → B' h xs) (z : ∀ h xs, Z h xs → Z' h xs) : ParC B' Z' cs p := by
  obtain ⟨h0, h1, h2, e, b0, b1, b2⟩ := h
  exact ⟨h0, h1, h2, e, f _ _ b0, f _ _ b1, z _ _ b2⟩
theorem NodeC.imp (h : NodeC B Z cs n) (f : ∀ h xs, B h xs → B' h xs) (z : ∀ h xs, Z h xs → Z' h xs) : NodeC B' Z' cs n := by
  obtain ⟨h0, h1, h2, h4, h5, p0, p1, p2, e, hk, hs, b0, b1, b2, b4, b5, q0, q1, q2⟩ := h
  exact ⟨h0, h1, h2, h4, h5, p0, p1, p2, e, hk, hs, f _ _ b0, f _ _ b1, f _ _ b2, f _ _ b4, f _ _ b5, f _ _ q0, f _ _ q1, z _ _ q2⟩
end
abbrev BsH (w : World) (h : Hd) (xs : List UInt8) : Prop := Bs w h.A h.n xs
abbrev ZsH (w : World) (h : Hd) (zs : List Int) : Prop := Zs w h.A h.n zs
def LeafAt (w : World) (cs : Array Value) (l : Leaf) : Prop := LeafC (BsH w) cs l
def ParAt (w : World) (cs : Array Value) (p : Par) : Prop := ParC (BsH w) (ZsH w) cs p
def NodeAt (w : World) (cs : Array Value) (n : Node) : Prop := NodeC (BsH w) (ZsH w) cs n
/-- The same, kept while blocks of S turn. -/
def LeafK (N : Nat) (S : List Nat) (w : World) (cs : Array Value) (l : Leaf) : Prop := LeafC (fun h xs => Kp N S (fun w => BsH w h xs) w) cs l
def ParK (N : Nat) (S : List Nat) (w : World) (cs : Array Value) (p : Par) : Prop := ParC (fun h xs => Kp N S (fun w => BsH w h xs) w) (fun h xs => Kp N S (fun w => ZsH w h xs) w) cs p
def NodeK (N : Nat) (S : List Nat) (w : World) (cs : Array Value) (n : Node) : Prop := NodeC (fun h xs => Kp N S (fun w => BsH w h xs) w) (fun h xs => Kp N S (fun w => ZsH w h xs) w) cs n
/-- The same, in memory from block 'base' on. -/
def LeafF (base : Nat) (w : World) (cs : Array Value) (l : Leaf) : Prop := LeafC (fun h xs => Fb base w h.A h.n xs) cs l
def ParF (base : Nat) (w : World) (cs : Array Value) (p : Par) : Prop := ParC (fun h xs => Fb base w h.A h.n xs) (fun h xs => Fz base w h.A h.n xs) cs p
def NodeF (base : Nat) (w : World) (cs : Array Value) (n : Node) : Prop := NodeC (fun h xs => Fb base w h.A h.n xs) (fun h xs => Fz base w h.A h.n xs) cs n
section
variable {S S' : List Nat} {w w' : World} {cs : Array Value} {l : Leaf} {p : Par} {n : Node} {N k base base' : Nat}
theorem LeafAt.ext (h : LeafAt w cs l) (e : Ext w w') : LeafAt w' cs l := LeafC.imp h fun _ _ b => Bs.ext b e
theorem ParAt.ext (h : ParAt w cs p) (e : Ext w w') : ParAt w' cs p := ParC.imp h (fun _ _ b => Bs.ext b e) (fun _ _ b => Zs.ext b e)
theorem NodeAt.ext (h : NodeAt w cs n) (e : Ext w w') : NodeAt w' cs n := NodeC.imp h (fun _ _ b => Bs.ext b e) (fun _ _ b => Zs.ext b e)
theorem LeafK.out (h : LeafK N S w cs l) : LeafAt w cs l := LeafC.imp h fun _ _ b => b.out
theorem ParK.out (h : ParK N S w cs p) : ParAt w cs p := ParC.imp h (fun _ _ b => b.out) (fun _ _ b => b.out)
theorem NodeK.out (h : NodeK N S w cs n) : NodeAt w cs n := NodeC.imp h (fun _ _ b => b.out) (fun _ _ b => b.out)
theorem LeafK.ext (h : LeafK N S w cs l) (e : Ext w w') : LeafK N S w' cs l := LeafC.imp h fun _ _ b => b.ext e
theorem ParK.ext (h : ParK N S w cs p) (e : Ext w w') : ParK N S w' cs p := ParC.imp h (fun _ _ b => b.ext e) (fun _ _ b => b.ext e)
theorem NodeK.ext (h : NodeK N S w cs n) (e : Ext w w') : NodeK N S w' cs n := NodeC.imp h (fun _ _ b => b.ext e) (fun _ _ b => b.ext e)
theorem LeafK.grow (h : LeafK N S w cs l) (e : Ext w w') (hk : w.heap.size ≤ k) : LeafK N (k :: S) w' cs l := LeafC.imp h fun _ _ b => b.grow e hk
theorem ParK.grow (h : ParK N S w cs p) (e : Ext w w') (hk : w.heap.size ≤ k) : ParK N (k :: S) w' cs p := ParC.imp h (fun _ _ b => b.grow e hk) (fun _ _ b => b.grow e hk)
theorem NodeK.grow (h : NodeK N S w cs n) (e : Ext w w') (hk : w.heap.size ≤ k) : NodeK N (k :: S) w' cs n := NodeC.imp h (fun _ _ b => b.grow e hk) (fun _ _ b => b.grow e hk)
theorem LeafK.chs (h : LeafK N S w cs l) (c : Chs S' w w') (hs : ∀ k ∈ S', k ∈ S := by first | (simp; done) | (simp; assumption)) : LeafK N S w' cs l := LeafC.imp h fun _ _ b => b.chs c hs
theorem ParK.chs (h : ParK N S w cs p) (c : Chs S' w w') (hs : ∀ k ∈ S', k ∈ S := by first | (simp; done) | (simp; assumption)) : ParK N S w' cs p := ParC.imp h (fun _ _ b => b.chs c hs) (fun _ _ b => b.chs c hs)
theorem NodeK.chs (h : NodeK N S w cs n) (c : Chs S' w w') (hs : ∀ k ∈ S', k ∈ S := by first | (simp; done) | (simp; assumption)) : NodeK N S w' cs n := NodeC.imp h (fun _ _ b => b.chs c hs) (fun _ _ b => b.chs c hs)
theorem LeafF.kp (h : LeafF base w cs l) (hS : ∀ g ∈ S, g < base) : LeafK w.heap.size S w cs l := LeafC.imp h fun _ _ b => b.kp hS
theorem ParF.kp (h : ParF base w cs p) (hS : ∀ g ∈ S, g < base) : ParK w.heap.size S w cs p := ParC.imp h (fun _ _ b => b.kp hS) (fun _ _ b => b.kp hS)
theorem NodeF.kp (h : NodeF base w cs n) (hS : ∀ g ∈ S, g < base) : NodeK w.heap.size S w cs n := NodeC.imp h (fun _ _ b => b.kp hS) (fun _ _ b => b.kp hS)
theorem LeafF.kk (h : LeafF base w cs l) (hS : ∀ g ∈ S, g < base) : Kp w.heap.size S (fun w => LeafF base w cs l) w := by
  obtain ⟨h0, h1, h2, h4, h5, e, hs, b0, b1, b2, b4, b5⟩ := h
  exact ⟨Nat.le_refl _, fun w2 hw => ⟨h0, h1, h2, h4, h5, e, hs, (b0.kk hS).2 w2 hw, (b1.kk hS).2 w2 hw, (b2.kk hS).2 w2 hw, (b4.kk hS).2 w2 hw, (b5.kk hS).2 w2 hw⟩⟩
theorem ParF.kk (h : ParF base w cs p) (hS : ∀ g ∈ S, g < base) : Kp w.heap.size S (fun w => ParF base w cs p) w := by
  obtain ⟨h0, h1, h2, e, b0, b1, b2⟩ := h
  exact ⟨Nat.le_refl _, fun w2 hw => ⟨h0, h1, h2, e, (b0.kk hS).2 w2 hw, (b1.kk hS).2 w2 hw, (b2.kk hS).2 w2 hw⟩⟩
theorem NodeF.kk (h : NodeF base w cs n) (hS : ∀ g ∈ S, g < base) : Kp w.heap.size S (fun w => NodeF base w cs n) w := by
  obtain ⟨h0, h1, h2, h4, h5, p0, p1, p2, e, hk, hs, b0, b1, b2, b4, b5, q0, q1, q2⟩ := h
  exact ⟨Nat.le_refl _, fun w2 hw => ⟨h0, h1, h2, h4, h5, p0, p1, p2, e, hk, hs, (b0.kk hS).2 w2 hw, (b1.kk hS).2 w2 hw, (b2.kk hS).2 w2 hw, (b4.kk hS).2 w2 hw, (b5.kk hS).2 w2 hw, (q0.kk hS).2 w2 hw, (q1.kk hS).2 w2 hw, (q2.kk hS).2 w2 hw⟩⟩
theorem LeafF.ext (h : LeafF base w cs l) (e : Ext w w') : LeafF base w' cs l := LeafC.imp h fun _ _ b => b.ext e
theorem ParF.ext (h : ParF base w cs p) (e : Ext w w') : ParF base w' cs p := ParC.imp h (fun _ _ b => b.ext e) (fun _ _ b => b.ext e)
theorem NodeF.ext (h : NodeF base w cs n) (e : Ext w w') : NodeF base w' cs n := NodeC.imp h (fun _ _ b => b.ext e) (fun _ _ b => b.ext e)
theorem LeafF.mono (h : LeafF base w cs l) (hb : base' ≤ base) : LeafF base' w cs l := LeafC.imp h fun _ _ b => b.mono hb
theorem ParF.mono (h : ParF base w cs p) (hb : base' ≤ base) : ParF base' w cs p := ParC.imp h (fun _ _ b => b.mono hb) (fun _ _ b => b.mono hb)
theorem NodeF.mono (h : NodeF base w cs n) (hb : base' ≤ base) : NodeF base' w cs n := NodeC.imp h (fun _ _ b => b.mono hb) (fun _ _ b => b.mono hb)
theorem LeafF.at (h : LeafF base w cs l) : LeafAt w cs l := LeafC.imp h fun _ _ b => b.1
theorem ParF.at (h : ParF base w cs p) : ParAt w cs p := ParC.imp h (fun _ _ b => b.1) (fun _ _ b => b.1)
theorem NodeF.at (h : NodeF base w cs n) : NodeAt w cs n := NodeC.imp h (fun _ _ b => b.1) (fun _ _ b => b.1)
def zLeafV : Array Value := leafV nilH nilH nilH 0 nilH nilH
def zParV : Array Value := parV nilH nilH nilH
def zNodeV : Array Value := nodeV 0 nilH nilH nilH 0 nilH nilH nilH nilH nilH
theorem LeafF.zero (base : Nat) (w : World) : LeafF base w zLeafV Leaf.zero := ⟨nilH, nilH, nilH, nilH, nilH, rfl, by decide, Fb.nil _ _ _, Fb.nil _ _ _, Fb.nil _ _ _, Fb.nil _ _ _, Fb.nil _ _ _⟩
theorem ParF.zero (base : Nat) (w : World) : ParF base w zParV Par.zero := ⟨nilH, nilH, nilH, rfl, Fb.nil _ _ _, Fb.nil _ _ _, Fz.nil _ _ _⟩
theorem NodeF.zero (base : Nat) (w : World) : NodeF base w zNodeV Node.zero := ⟨nilH, nilH, nilH, nilH, nilH, nilH, nilH, nilH, rfl, by decide, by decide, Fb.nil _ _ _, Fb.nil _ _ _, Fb.nil _ _ _, Fb.nil _ _ _, Fb.nil _ _ _, Fb.nil _ _ _, Fb.nil _ _ _, Fz.nil _ _ _⟩
end
/-! Which may be. -/
def okLeaf (l : Leaf) : Prop := l.box.length = 32 ∧ l.sign.length = 32 ∧ l.sig.length = 64 ∧ 1 ≤ l.ident.length ∧ l.ident.length ≤ 64 ∧ 1 ≤ l.src ∧ l.src ≤ 3 ∧ (l.parent.length = 0 ∨ l.src = 3 ∧ l.parent.length = 32)
instance (l : Leaf) : Decidable (okLeaf l) := by unfold okLeaf; infer_instance
instance (a b : Leaf) : Decidable (a = b) := by
  refine decidable_of_iff (a.box = b.box ∧ a.sign = b.sign ∧ a.ident = b.ident ∧ a.src = b.src ∧ a.parent = b.parent ∧ a.sig = b.sig) ⟨fun ⟨h1, h2, h3, h4, h5, h6⟩ => ?_, fun h => by subst h; exact ⟨rfl, rfl, rfl, rfl, rfl, rfl⟩⟩
  cases a; cases b; simp_all
instance (a b : Par) : Decidable (a = b) := by
  refine decidable_of_iff (a.box = b.box ∧ a.hash = b.hash ∧ a.late = b.late) ⟨fun ⟨h1, h2, h3⟩ => ?_, fun h => by subst h; exact ⟨rfl, rfl, rfl⟩⟩
  cases a; cases b; simp_all
instance (a b : Node) : Decidable (a = b) := by
  refine decidable_of_iff (a.kind = b.kind ∧ a.leaf = b.leaf ∧ a.par = b.par) ⟨fun ⟨h1, h2, h3⟩ => ?_, fun h => by subst h; exact ⟨rfl, rfl, rfl⟩⟩
  cases a; cases b; simp_all
theorem ret_no {p : Prop} [Decidable p] (h : ¬ p) : Ending.returned (.bool false) = .returned (.bool (decide p)) := by rw [decide_eq_false h]
theorem ret_yes {p : Prop} [Decidable p] (h : p) : Ending.returned (.bool true) = .returned (.bool (decide p)) := by rw [decide_eq_true h]
theorem rightLeaf_any {cs : Array Value} {l : Leaf} (w : World) (H : LeafAt w cs l) :
    Calls Tryz.prog 136 #[.agg cs] w fun e w' => e = .returned (.bool (decide (okLeaf l))) ∧ Ext w w' := by
  obtain ⟨h0, h1, h2, h4, h5, rfl, hs, b0, b1, b2, b4, b5⟩ := H
  have l0 := b0.1; have l1 := b1.1; have l2 := b2.1; have l4 := b4.1; have l5 := b5.1
  have E := Ext.refl w
  refine vc_enter1 55 Tryz.func136 rfl rfl rfl rfl ?_
  intro Q hret
  refine wc_seq ?_; intro K1 hK1
  refine wc_region ?_
  refine wl_ef (ef_box rfl rfl) rfl ?_
  rintro _ wB1 ⟨gB1, rfl, B1, hgB1, ex⟩
  have lB1 := B1.lt; have zB1 := ex.size
  replace E := E.ext ex
  refine wl_y (y_assign rfl) rfl ?_
  refine wl_nil ?_
  refine wq_then_norm (hK1 ?_)
  refine wc_seq ?_; intro K2 hK2
  refine wc_block ?_
  refine wc_seq ?_; intro K3 hK3
  refine wc_region ?_
  refine wl_y (y_fieldAddr (o := 0) (s := 1) (off := 0) (o' := 0) rfl Tryz.underlying25 rfl (by kernel_rfl) rfl rfl) rfl ?_
  refine wl_y (y_load1 rfl Tryz.underlying22 rfl (B1.get (i := 0) rfl)) rfl ?_
  refine wl_y (y_len_slice rfl Tryz.underlying22) rfl ?_
  refine wl_yask (y_neq rfl rfl) rfl (fun q0 => ?_) (fun q0 => ?_)
  · skip
    refine wl_y (y_move rfl) rfl ?_
    refine wl_gno 8 rfl rfl rfl rfl ?_
    refine wl_gno 8 rfl rfl rfl rfl ?_
    refine wl_gno 8 rfl rfl rfl rfl ?_
    refine wl_gno 8 rfl rfl rfl rfl ?_
    refine wl_y (y_pickt rfl rfl) rfl ?_
    refine wl_y (y_move rfl) rfl ?_
    refine wl_gno 14 rfl rfl rfl rfl ?_
    refine wl_gno 14 rfl rfl rfl rfl ?_
    refine wl_gno 14 rfl rfl rfl rfl ?_
    refine wl_gno 14 rfl rfl rfl rfl ?_
    refine wl_y (y_pickt rfl rfl) rfl ?_
    refine wl_y (y_assign rfl) rfl ?_
    refine wl_nil ?_
    refine wq_then_norm (hK3 ?_)
    refine wc_true rfl rfl ?_
    refine wc_seq ?_; intro K4 hK4
    refine wc_region ?_
    refine wl_y (y_assign rfl) rfl ?_
    refine wl_nil ?_
    refine wq_then_norm (hK4 ?_)
    refine wc_ret ?_
    refine wq_blk_ret ?_
    refine wq_then_ret ?_
    refine hret rfl ?_
    exact ⟨ret_no fun h => by unfold okLeaf at h; omega, E⟩
  · skip
    refine wl_y (y_move rfl) rfl ?_
    refine wl_gy 8 rfl rfl (y_fieldAddr (o := 1) (s := 1) (off := 0) (o' := 1) rfl Tryz.underlying25 rfl (by kernel_rfl) rfl rfl) rfl ?_
    refine wl_gy 8 rfl rfl (y_load1 rfl Tryz.underlying22 rfl (B1.get (i := 1) rfl)) rfl ?_
    refine wl_gy 8 rfl rfl (y_len_slice rfl Tryz.underlying22) rfl ?_
    refine wl_gyask 8 rfl rfl (y_neq rfl rfl) rfl (fun q1 => ?_) (fun q1 => ?_)
    · skip
      refine wl_y (y_pickf rfl rfl) rfl ?_
      refine wl_y (y_move rfl) rfl ?_
      refine wl_gno 14 rfl rfl rfl rfl ?_
      refine wl_gno 14 rfl rfl rfl rfl ?_
      refine wl_gno 14 rfl rfl rfl rfl ?_
      refine wl_gno 14 rfl rfl rfl rfl ?_
      refine wl_y (y_pickt rfl rfl) rfl ?_
      refine wl_y (y_assign rfl) rfl ?_
      refine wl_nil ?_
      refine wq_then_norm (hK3 ?_)
      refine wc_true rfl rfl ?_
      refine wc_seq ?_; intro K5 hK5
      refine wc_region ?_
      refine wl_y (y_assign rfl) rfl ?_
      refine wl_nil ?_
      refine wq_then_norm (hK5 ?_)
      refine wc_ret ?_
      refine wq_blk_ret ?_
      refine wq_then_ret ?_
      refine hret rfl ?_
      exact ⟨ret_no fun h => by unfold okLeaf at h; omega, E⟩
    · skip
      refine wl_y (y_pickf rfl rfl) rfl ?_
      refine wl_y (y_move rfl) rfl ?_
      refine wl_gy 14 rfl rfl (y_fieldAddr (o := 5) (s := 1) (off := 0) (o' := 5) rfl Tryz.underlying25 rfl (by kernel_rfl) rfl rfl) rfl ?_
      refine wl_gy 14 rfl rfl (y_load1 rfl Tryz.underlying22 rfl (B1.get (i := 5) rfl)) rfl ?_
      refine wl_gy 14 rfl rfl (y_len_slice rfl Tryz.underlying22) rfl ?_
      refine wl_gyask 14 rfl rfl (y_neq rfl rfl) rfl (fun q2 => ?_) (fun q2 => ?_)
      · skip
        refine wl_y (y_pickf rfl rfl) rfl ?_
        refine wl_y (y_assign rfl) rfl ?_
        refine wl_nil ?_
        refine wq_then_norm (hK3 ?_)
        refine wc_true rfl rfl ?_
        refine wc_seq ?_; intro K6 hK6
        refine wc_region ?_
        refine wl_y (y_assign rfl) rfl ?_
        refine wl_nil ?_
        refine wq_then_norm (hK6 ?_)
        refine wc_ret ?_
        refine wq_blk_ret ?_
        refine wq_then_ret ?_
        refine hret rfl ?_
        exact ⟨ret_no fun h => by unfold okLeaf at h; omega, E⟩
      · skip
        refine wl_y (y_pickf rfl rfl) rfl ?_
        refine wl_y (y_assign rfl) rfl ?_
        refine wl_nil ?_
        refine wq_then_norm (hK3 ?_)
        refine wc_false rfl rfl ?_
        refine wc_seq ?_; intro K7 hK7
        refine wc_region ?_
        refine wl_y (y_fieldAddr (o := 2) (s := 1) (off := 0) (o' := 2) rfl Tryz.underlying25 rfl (by kernel_rfl) rfl rfl) rfl ?_
        refine wl_y (y_load1 rfl Tryz.underlying22 rfl (B1.get (i := 2) rfl)) rfl ?_
        refine wl_y (y_len_slice rfl Tryz.underlying22) rfl ?_
        refine wl_yask (y_lss rfl rfl) rfl (fun q3 => ?_) (fun q3 => ?_)
        · skip
          refine wl_y (y_move rfl) rfl ?_
          refine wl_gno 25 rfl rfl rfl rfl ?_
          refine wl_gno 25 rfl rfl rfl rfl ?_
          refine wl_gno 25 rfl rfl rfl rfl ?_
          refine wl_gno 25 rfl rfl rfl rfl ?_
          refine wl_y (y_pickt rfl rfl) rfl ?_
          refine wl_y (y_assign rfl) rfl ?_
          refine wl_nil ?_
          refine wq_then_norm (hK7 ?_)
          refine wc_true rfl rfl ?_
          refine wc_seq ?_; intro K8 hK8
          refine wc_region ?_
          refine wl_y (y_assign rfl) rfl ?_
          refine wl_nil ?_
          refine wq_then_norm (hK8 ?_)
          refine wc_ret ?_
          refine wq_blk_ret ?_
          refine wq_then_ret ?_
          refine hret rfl ?_
          exact ⟨ret_no fun h => by unfold okLeaf at h; omega, E⟩
        · skip
          refine wl_y (y_move rfl) rfl ?_
          refine wl_gy 25 rfl rfl (y_fieldAddr (o := 2) (s := 1) (off := 0) (o' := 2) rfl Tryz.underlying25 rfl (by kernel_rfl) rfl rfl) rfl ?_
          refine wl_gy 25 rfl rfl (y_load1 rfl Tryz.underlying22 rfl (B1.get (i := 2) rfl)) rfl ?_
          refine wl_gy 25 rfl rfl (y_len_slice rfl Tryz.underlying22) rfl ?_
          refine wl_gyask 25 rfl rfl (y_gtr rfl rfl) rfl (fun q4 => ?_) (fun q4 => ?_)
          · skip
            refine wl_y (y_pickf rfl rfl) rfl ?_
            refine wl_y (y_assign rfl) rfl ?_
            refine wl_nil ?_
            refine wq_then_norm (hK7 ?_)
            refine wc_true rfl rfl ?_
            refine wc_seq ?_; intro K9 hK9
            refine wc_region ?_
            refine wl_y (y_assign rfl) rfl ?_
            refine wl_nil ?_
            refine wq_then_norm (hK9 ?_)
            refine wc_ret ?_
            refine wq_blk_ret ?_
            refine wq_then_ret ?_
            refine hret rfl ?_
            exact ⟨ret_no fun h => by unfold okLeaf at h; omega, E⟩
          · skip
            refine wl_y (y_pickf rfl rfl) rfl ?_
            refine wl_y (y_assign rfl) rfl ?_
            refine wl_nil ?_
            refine wq_then_norm (hK7 ?_)
            refine wc_false rfl rfl ?_
            refine wc_seq ?_; intro K10 hK10
            refine wc_region ?_
            refine wl_y (y_fieldAddr (o := 3) (s := 1) (off := 0) (o' := 3) rfl Tryz.underlying25 rfl (by kernel_rfl) rfl rfl) rfl ?_
            refine wl_y (y_load1 rfl Tryz.underlying5 rfl (B1.get (i := 3) rfl)) rfl ?_
            refine wl_yask (y_lss rfl rfl) rfl (fun q5 => ?_) (fun q5 => ?_)
            · skip
              refine wl_y (y_move rfl) rfl ?_
              refine wl_gno 35 rfl rfl rfl rfl ?_
              refine wl_gno 35 rfl rfl rfl rfl ?_
              refine wl_gno 35 rfl rfl rfl rfl ?_
              refine wl_y (y_pickt rfl rfl) rfl ?_
              refine wl_y (y_assign rfl) rfl ?_
              refine wl_nil ?_
              refine wq_then_norm (hK10 ?_)
              refine wc_true rfl rfl ?_
              refine wc_seq ?_; intro K11 hK11
              refine wc_region ?_
              refine wl_y (y_assign rfl) rfl ?_
              refine wl_nil ?_
              refine wq_then_norm (hK11 ?_)
              refine wc_ret ?_
              refine wq_blk_ret ?_
              refine wq_then_ret ?_
              refine hret rfl ?_
              exact ⟨ret_no fun h => by unfold okLeaf at h; omega, E⟩
            · skip
              refine wl_y (y_move rfl) rfl ?_
              refine wl_gy 35 rfl rfl (y_fieldAddr (o := 3) (s := 1) (off := 0) (o' := 3) rfl Tryz.underlying25 rfl (by kernel_rfl) rfl rfl) rfl ?_
              refine wl_gy 35 rfl rfl (y_load1 rfl Tryz.underlying5 rfl (B1.get (i := 3) rfl)) rfl ?_
              refine wl_gyask 35 rfl rfl (y_gtr rfl rfl) rfl (fun q6 => ?_) (fun q6 => ?_)
              · skip
                refine wl_y (y_pickf rfl rfl) rfl ?_
                refine wl_y (y_assign rfl) rfl ?_
                refine wl_nil ?_
                refine wq_then_norm (hK10 ?_)
                refine wc_true rfl rfl ?_
                refine wc_seq ?_; intro K12 hK12
                refine wc_region ?_
                refine wl_y (y_assign rfl) rfl ?_
                refine wl_nil ?_
                refine wq_then_norm (hK12 ?_)
                refine wc_ret ?_
                refine wq_blk_ret ?_
                refine wq_then_ret ?_
                refine hret rfl ?_
                exact ⟨ret_no fun h => by unfold okLeaf at h; omega, E⟩
              · skip
                refine wl_y (y_pickf rfl rfl) rfl ?_
                refine wl_y (y_assign rfl) rfl ?_
                refine wl_nil ?_
                refine wq_then_norm (hK10 ?_)
                refine wc_false rfl rfl ?_
                refine wc_skip ?_
                refine wq_blk_norm ?_
                refine wq_then_norm (hK2 ?_)
                refine wc_seq ?_; intro K13 hK13
                refine wc_region ?_
                refine wl_y (y_fieldAddr (o := 4) (s := 1) (off := 0) (o' := 4) rfl Tryz.underlying25 rfl (by kernel_rfl) rfl rfl) rfl ?_
                refine wl_y (y_load1 rfl Tryz.underlying22 rfl (B1.get (i := 4) rfl)) rfl ?_
                refine wl_y (y_len_slice rfl Tryz.underlying22) rfl ?_
                refine wl_yask (y_eql rfl rfl) rfl (fun q7 => ?_) (fun q7 => ?_)
                · skip
                  refine wl_y (y_move rfl) rfl ?_
                  refine wl_gno 44 rfl rfl rfl rfl ?_
                  refine wl_gno 44 rfl rfl rfl rfl ?_
                  refine wl_gno 44 rfl rfl rfl rfl ?_
                  refine wl_gno 44 rfl rfl rfl rfl ?_
                  refine wl_gun 48 rfl rfl rfl ?_
                  refine wl_gun 48 rfl rfl rfl ?_
                  refine wl_gun 48 rfl rfl rfl ?_
                  refine wl_gun 48 rfl rfl rfl ?_
                  refine wl_gno 44 rfl rfl rfl rfl ?_
                  refine wl_y (y_pickt rfl rfl) rfl ?_
                  refine wl_y (y_assign rfl) rfl ?_
                  refine wl_nil ?_
                  refine wq_then_norm (hK13 ?_)
                  refine wc_ret ?_
                  refine hret rfl ?_
                  exact ⟨ret_yes (by unfold okLeaf; omega), E⟩
                · skip
                  refine wl_y (y_move rfl) rfl ?_
                  refine wl_gy 44 rfl rfl (y_fieldAddr (o := 3) (s := 1) (off := 0) (o' := 3) rfl Tryz.underlying25 rfl (by kernel_rfl) rfl rfl) rfl ?_
                  refine wl_gy 44 rfl rfl (y_load1 rfl Tryz.underlying5 rfl (B1.get (i := 3) rfl)) rfl ?_
                  refine wl_gyask 44 rfl rfl (y_eql rfl rfl) rfl (fun q8 => ?_) (fun q8 => ?_)
                  · skip
                    refine wl_gy 44 rfl rfl (y_move rfl) rfl ?_
                    refine wl_gy 48 rfl rfl (y_fieldAddr (o := 4) (s := 1) (off := 0) (o' := 4) rfl Tryz.underlying25 rfl (by kernel_rfl) rfl rfl) rfl ?_
                    refine wl_gy 48 rfl rfl (y_load1 rfl Tryz.underlying22 rfl (B1.get (i := 4) rfl)) rfl ?_
                    refine wl_gy 48 rfl rfl (y_len_slice rfl Tryz.underlying22) rfl ?_
                    refine wl_gyask 48 rfl rfl (y_eql rfl rfl) rfl (fun q9 => ?_) (fun q9 => ?_)
                    · skip
                      refine wl_gy 44 rfl rfl (y_pickt rfl rfl) rfl ?_
                      refine wl_y (y_pickf rfl rfl) rfl ?_
                      refine wl_y (y_assign rfl) rfl ?_
                      refine wl_nil ?_
                      refine wq_then_norm (hK13 ?_)
                      refine wc_ret ?_
                      refine hret rfl ?_
                      exact ⟨ret_yes (by unfold okLeaf; omega), E⟩
                    · skip
                      refine wl_gy 44 rfl rfl (y_pickt rfl rfl) rfl ?_
                      refine wl_y (y_pickf rfl rfl) rfl ?_
                      refine wl_y (y_assign rfl) rfl ?_
                      refine wl_nil ?_
                      refine wq_then_norm (hK13 ?_)
                      refine wc_ret ?_
                      refine hret rfl ?_
                      exact ⟨ret_no fun h => by unfold okLeaf at h; omega, E⟩
                  · skip
                    refine wl_gy 44 rfl rfl (y_move rfl) rfl ?_
                    refine wl_gno 48 rfl rfl rfl rfl ?_
                    refine wl_gno 48 rfl rfl rfl rfl ?_
                    refine wl_gno 48 rfl rfl rfl rfl ?_
                    refine wl_gno 48 rfl rfl rfl rfl ?_
                    refine wl_gy 44 rfl rfl (y_pickf rfl rfl) rfl ?_
                    refine wl_y (y_pickf rfl rfl) rfl ?_
                    refine wl_y (y_assign rfl) rfl ?_
                    refine wl_nil ?_
                    refine wq_then_norm (hK13 ?_)
                    refine wc_ret ?_
                    refine hret rfl ?_
                    exact ⟨ret_no fun h => by unfold okLeaf at h; omega, E⟩
end Go.Proofs.YtpgalbgonmclaaaGreat
