/- The bytes of leaves, parents and nodes: what node and the reference hand back. -/
import Derived.Test.YtjllhimhiekchaaGreatWireR
import Derived.Test.YtjllhimhiekchaaGreatKdfC
import Derived.Test.YtjllhimhiekchaaGreatRow
/- Leaves, parents and nodes of a tree, plainly and in memory; whether they are right: what node and the reference answer. -/
namespace Go.Proofs.YtjllhimhiekchaaGreat
open Go.RowKit
attribute [local irreducible] Y Ef WL WC WK WQ WM OpM WN WF OpN
theorem sm_any {A B : Option Addr} {n m c d : Nat} {xs ys : List UInt8} {w : World} (ha : Bs w A n xs) (hb : Bs w B m ys) (hn : n ≤ 140737488355328) (hm : m ≤ 140737488355328) :
  Calls Tryz.prog 32 #[.slice A n c, .slice B m d] w fun e w' => e = .returned (.bool (decide (xs = ys))) ∧ Ext w w' :=
 (same_any A B n m c d xs ys w ha hb hn hm).mono fun _ _ ⟨h1, k, h2⟩ => ⟨h1, by rw [h2]; exact Ext.drewN _ _⟩
structure Leaf where
 box : List UInt8
 sign : List UInt8
 ident : List UInt8
 src : Nat
 parent : List UInt8
 sig : List UInt8
structure Par where
 box : List UInt8
 hash : List UInt8
 late : List Int
structure Node where
 kind : Nat
 leaf : Leaf
 par : Par
def Leaf.zero : Leaf := ⟨[], [], [], 0, [], []⟩
def Par.zero : Par := ⟨[], [], []⟩
structure Hd where
 A : Option Addr
 n : Nat
 c : Nat
def nilH : Hd := ⟨none, 0, 0⟩
def leafV (h0 h1 h2 : Hd) (s : Nat) (h4 h5 : Hd) : Array Value := #[.slice h0.A h0.n h0.c, .slice h1.A h1.n h1.c, .slice h2.A h2.n h2.c, .int .u8 (s : Int), .slice h4.A h4.n h4.c, .slice h5.A h5.n h5.c]
def LeafC (B : Hd → List UInt8 → Prop) (cs : Array Value) (l : Leaf) : Prop := ∃ h0 h1 h2 h4 h5, cs = leafV h0 h1 h2 l.src h4 h5 ∧ l.src < 256 ∧ B h0 l.box ∧ B h1 l.sign ∧ B h2 l.ident ∧ B h4 l.parent ∧ B h5 l.sig
section
variable {B B' : Hd → List UInt8 → Prop} {Z Z' : Hd → List Int → Prop} {cs : Array Value} {l : Leaf} {p : Par} {n : Node}
theorem LeafC.imp (h : LeafC B cs l) (f : ∀ h xs, B h xs → B' h xs) : LeafC B' cs l := by
 obtain ⟨h0, h1, h2, h4, h5, e, hs, b0, b1, b2, b4, b5⟩ := h
 exact ⟨h0, h1, h2, h4, h5, e, hs, f _ _ b0, f _ _ b1, f _ _ b2, f _ _ b4, f _ _ b5⟩
end
abbrev BsH (w : World) (h : Hd) (xs : List UInt8) : Prop := Bs w h.A h.n xs
def LeafAt (w : World) (cs : Array Value) (l : Leaf) : Prop := LeafC (BsH w) cs l
section
variable {S S' : List Nat} {w w' : World} {cs : Array Value} {l : Leaf} {p : Par} {n : Node} {N k base base' : Nat}
theorem LeafAt.ext (h : LeafAt w cs l) (e : Ext w w') : LeafAt w' cs l := LeafC.imp h fun _ _ b => Bs.ext b e
def zLeafV : Array Value := leafV nilH nilH nilH 0 nilH nilH
end
/-! Which may be. -/
def okLeaf (l : Leaf) : Prop := l.box.length = 32 ∧ l.sign.length = 32 ∧ l.sig.length = 64 ∧ 1 ≤ l.ident.length ∧ l.ident.length ≤ 64 ∧ 1 ≤ l.src ∧ l.src ≤ 3 ∧ (l.parent.length = 0 ∨ l.src = 3 ∧ l.parent.length = 32)
instance (l : Leaf) : Decidable (okLeaf l) := by unfold okLeaf; infer_instance
def rising : Int → List Int → Prop
 | _, [] => True
 | last, x :: xs => last < x ∧ x < 65536 ∧ rising x xs
def rising.dec : (last : Int) → (xs : List Int) → Decidable (rising last xs)
 | _, [] => .isTrue trivial
 | last, x :: xs => @instDecidableAnd _ _ _ (@instDecidableAnd _ _ _ (rising.dec x xs))
instance (last : Int) (xs : List Int) : Decidable (rising last xs) := rising.dec last xs
instance (a b : Leaf) : Decidable (a = b) := by
 refine decidable_of_iff (a.box = b.box ∧ a.sign = b.sign ∧ a.ident = b.ident ∧ a.src = b.src ∧ a.parent = b.parent ∧ a.sig = b.sig) ⟨fun ⟨h1, h2, h3, h4, h5, h6⟩ => ?_, fun h => by subst h; exact ⟨rfl, rfl, rfl, rfl, rfl, rfl⟩⟩
 cases a; cases b; simp_all
instance (a b : Par) : Decidable (a = b) := by
 refine decidable_of_iff (a.box = b.box ∧ a.hash = b.hash ∧ a.late = b.late) ⟨fun ⟨h1, h2, h3⟩ => ?_, fun h => by subst h; exact ⟨rfl, rfl, rfl⟩⟩
 cases a; cases b; simp_all
instance (a b : Node) : Decidable (a = b) := by
 refine decidable_of_iff (a.kind = b.kind ∧ a.leaf = b.leaf ∧ a.par = b.par) ⟨fun ⟨h1, h2, h3⟩ => ?_, fun h => by subst h; exact ⟨rfl, rfl, rfl⟩⟩
 cases a; cases b; simp_all
theorem ret_no {p : Prop} [Decidable p] (h : ¬ p) : Ending.returned (.bool false) = .returned (.bool (decide p)) := by rw [decide_eq_false h]
theorem ret_yes {p : Prop} [Decidable p] (h : p) : Ending.returned (.bool true) = .returned (.bool (decide p)) := by rw [decide_eq_true h]
theorem rightLeaf_any {cs : Array Value} {l : Leaf} (w : World) (H : LeafAt w cs l) :
  Calls Tryz.prog 168 #[.agg cs] w fun e w' => e = .returned (.bool (decide (okLeaf l))) ∧ Ext w w' := by
 obtain ⟨h0, h1, h2, h4, h5, rfl, hs, b0, b1, b2, b4, b5⟩ := H
 have l0 := b0.1; have l1 := b1.1; have l2 := b2.1; have l4 := b4.1; have l5 := b5.1
 have E := Ext.refl w
 refine vc_enter1 55 Tryz.func168 rfl rfl rfl rfl ?_
 intro Q hret
 refine wc_seq ?_; intro K1 hK1
 refine wc_region ?_
 refine wl_ef (ef_box rfl rfl) rfl ?_
 rintro _ wB1 ⟨gB1, rfl, B1, hgB1, ex⟩
 have lB1 := B1.lt; have zB1 := ex.size
 replace E := E.ext ex
 refine wl_y (y_assign rfl) rfl ?_
 refine wl_nil ?_
 refine wq_then_norm (hK1 ?_)
 refine wc_seq ?_; intro K2 hK2
 refine wc_block ?_
 refine wc_seq ?_; intro K3 hK3
 refine wc_region ?_
 refine wl_y (y_fieldAddr (o := 0) (s := 1) (off := 0) (o' := 0) rfl Tryz.underlying27 rfl (by kernel_rfl) rfl rfl) rfl ?_
 refine wl_y (y_load1 rfl Tryz.underlying23 rfl (B1.get (i := 0) rfl)) rfl ?_
 refine wl_y (y_len_slice rfl Tryz.underlying23) rfl ?_
 refine wl_yask (y_neq rfl rfl) rfl (fun q0 => ?_) (fun q0 => ?_)
 ·skip
  refine wl_y (y_move rfl) rfl ?_
  refine wl_gno 8 rfl rfl rfl rfl ?_
  refine wl_gno 8 rfl rfl rfl rfl ?_
  refine wl_gno 8 rfl rfl rfl rfl ?_
  refine wl_gno 8 rfl rfl rfl rfl ?_
  refine wl_y (y_pickt rfl rfl) rfl ?_
  refine wl_y (y_move rfl) rfl ?_
  refine wl_gno 14 rfl rfl rfl rfl ?_
  refine wl_gno 14 rfl rfl rfl rfl ?_
  refine wl_gno 14 rfl rfl rfl rfl ?_
  refine wl_gno 14 rfl rfl rfl rfl ?_
  refine wl_y (y_pickt rfl rfl) rfl ?_
  refine wl_y (y_assign rfl) rfl ?_
  refine wl_nil ?_
  refine wq_then_norm (hK3 ?_)
  refine wc_true rfl rfl ?_
  refine wc_seq ?_; intro K4 hK4
  refine wc_region ?_
  refine wl_y (y_assign rfl) rfl ?_
  refine wl_nil ?_
  refine wq_then_norm (hK4 ?_)
  refine wc_ret ?_
  refine wq_blk_ret ?_
  refine wq_then_ret ?_
  refine hret rfl ?_
  exact ⟨ret_no fun h => by unfold okLeaf at h; omega, E⟩
 ·skip
  refine wl_y (y_move rfl) rfl ?_
  refine wl_gy 8 rfl rfl (y_fieldAddr (o := 1) (s := 1) (off := 0) (o' := 1) rfl Tryz.underlying27 rfl (by kernel_rfl) rfl rfl) rfl ?_
  refine wl_gy 8 rfl rfl (y_load1 rfl Tryz.underlying23 rfl (B1.get (i := 1) rfl)) rfl ?_
  refine wl_gy 8 rfl rfl (y_len_slice rfl Tryz.underlying23) rfl ?_
  refine wl_gyask 8 rfl rfl (y_neq rfl rfl) rfl (fun q1 => ?_) (fun q1 => ?_)
  ·skip
   refine wl_y (y_pickf rfl rfl) rfl ?_
   refine wl_y (y_move rfl) rfl ?_
   refine wl_gno 14 rfl rfl rfl rfl ?_
   refine wl_gno 14 rfl rfl rfl rfl ?_
   refine wl_gno 14 rfl rfl rfl rfl ?_
   refine wl_gno 14 rfl rfl rfl rfl ?_
   refine wl_y (y_pickt rfl rfl) rfl ?_
   refine wl_y (y_assign rfl) rfl ?_
   refine wl_nil ?_
   refine wq_then_norm (hK3 ?_)
   refine wc_true rfl rfl ?_
   refine wc_seq ?_; intro K5 hK5
   refine wc_region ?_
   refine wl_y (y_assign rfl) rfl ?_
   refine wl_nil ?_
   refine wq_then_norm (hK5 ?_)
   refine wc_ret ?_
   refine wq_blk_ret ?_
   refine wq_then_ret ?_
   refine hret rfl ?_
   exact ⟨ret_no fun h => by unfold okLeaf at h; omega, E⟩
  ·skip
   refine wl_y (y_pickf rfl rfl) rfl ?_
   refine wl_y (y_move rfl) rfl ?_
   refine wl_gy 14 rfl rfl (y_fieldAddr (o := 5) (s := 1) (off := 0) (o' := 5) rfl Tryz.underlying27 rfl (by kernel_rfl) rfl rfl) rfl ?_
   refine wl_gy 14 rfl rfl (y_load1 rfl Tryz.underlying23 rfl (B1.get (i := 5) rfl)) rfl ?_
   refine wl_gy 14 rfl rfl (y_len_slice rfl Tryz.underlying23) rfl ?_
   refine wl_gyask 14 rfl rfl (y_neq rfl rfl) rfl (fun q2 => ?_) (fun q2 => ?_)
   ·skip
    refine wl_y (y_pickf rfl rfl) rfl ?_
    refine wl_y (y_assign rfl) rfl ?_
    refine wl_nil ?_
    refine wq_then_norm (hK3 ?_)
    refine wc_true rfl rfl ?_
    refine wc_seq ?_; intro K6 hK6
    refine wc_region ?_
    refine wl_y (y_assign rfl) rfl ?_
    refine wl_nil ?_
    refine wq_then_norm (hK6 ?_)
    refine wc_ret ?_
    refine wq_blk_ret ?_
    refine wq_then_ret ?_
    refine hret rfl ?_
    exact ⟨ret_no fun h => by unfold okLeaf at h; omega, E⟩
   ·skip
    refine wl_y (y_pickf rfl rfl) rfl ?_
    refine wl_y (y_assign rfl) rfl ?_
    refine wl_nil ?_
    refine wq_then_norm (hK3 ?_)
    refine wc_false rfl rfl ?_
    refine wc_seq ?_; intro K7 hK7
    refine wc_region ?_
    refine wl_y (y_fieldAddr (o := 2) (s := 1) (off := 0) (o' := 2) rfl Tryz.underlying27 rfl (by kernel_rfl) rfl rfl) rfl ?_
    refine wl_y (y_load1 rfl Tryz.underlying23 rfl (B1.get (i := 2) rfl)) rfl ?_
    refine wl_y (y_len_slice rfl Tryz.underlying23) rfl ?_
    refine wl_yask (y_lss rfl rfl) rfl (fun q3 => ?_) (fun q3 => ?_)
    ·skip
     refine wl_y (y_move rfl) rfl ?_
     refine wl_gno 25 rfl rfl rfl rfl ?_
     refine wl_gno 25 rfl rfl rfl rfl ?_
     refine wl_gno 25 rfl rfl rfl rfl ?_
     refine wl_gno 25 rfl rfl rfl rfl ?_
     refine wl_y (y_pickt rfl rfl) rfl ?_
     refine wl_y (y_assign rfl) rfl ?_
     refine wl_nil ?_
     refine wq_then_norm (hK7 ?_)
     refine wc_true rfl rfl ?_
     refine wc_seq ?_; intro K8 hK8
     refine wc_region ?_
     refine wl_y (y_assign rfl) rfl ?_
     refine wl_nil ?_
     refine wq_then_norm (hK8 ?_)
     refine wc_ret ?_
     refine wq_blk_ret ?_
     refine wq_then_ret ?_
     refine hret rfl ?_
     exact ⟨ret_no fun h => by unfold okLeaf at h; omega, E⟩
    ·skip
     refine wl_y (y_move rfl) rfl ?_
     refine wl_gy 25 rfl rfl (y_fieldAddr (o := 2) (s := 1) (off := 0) (o' := 2) rfl Tryz.underlying27 rfl (by kernel_rfl) rfl rfl) rfl ?_
     refine wl_gy 25 rfl rfl (y_load1 rfl Tryz.underlying23 rfl (B1.get (i := 2) rfl)) rfl ?_
     refine wl_gy 25 rfl rfl (y_len_slice rfl Tryz.underlying23) rfl ?_
     refine wl_gyask 25 rfl rfl (y_gtr rfl rfl) rfl (fun q4 => ?_) (fun q4 => ?_)
     ·skip
      refine wl_y (y_pickf rfl rfl) rfl ?_
      refine wl_y (y_assign rfl) rfl ?_
      refine wl_nil ?_
      refine wq_then_norm (hK7 ?_)
      refine wc_true rfl rfl ?_
      refine wc_seq ?_; intro K9 hK9
      refine wc_region ?_
      refine wl_y (y_assign rfl) rfl ?_
      refine wl_nil ?_
      refine wq_then_norm (hK9 ?_)
      refine wc_ret ?_
      refine wq_blk_ret ?_
      refine wq_then_ret ?_
      refine hret rfl ?_
      exact ⟨ret_no fun h => by unfold okLeaf at h; omega, E⟩
     ·skip
      refine wl_y (y_pickf rfl rfl) rfl ?_
      refine wl_y (y_assign rfl) rfl ?_
      refine wl_nil ?_
      refine wq_then_norm (hK7 ?_)
      refine wc_false rfl rfl ?_
      refine wc_seq ?_; intro K10 hK10
      refine wc_region ?_
      refine wl_y (y_fieldAddr (o := 3) (s := 1) (off := 0) (o' := 3) rfl Tryz.underlying27 rfl (by kernel_rfl) rfl rfl) rfl ?_
      refine wl_y (y_load1 rfl Tryz.underlying5 rfl (B1.get (i := 3) rfl)) rfl ?_
      refine wl_yask (y_lss rfl rfl) rfl (fun q5 => ?_) (fun q5 => ?_)
      ·skip
       refine wl_y (y_move rfl) rfl ?_
       refine wl_gno 35 rfl rfl rfl rfl ?_
       refine wl_gno 35 rfl rfl rfl rfl ?_
       refine wl_gno 35 rfl rfl rfl rfl ?_
       refine wl_y (y_pickt rfl rfl) rfl ?_
       refine wl_y (y_assign rfl) rfl ?_
       refine wl_nil ?_
       refine wq_then_norm (hK10 ?_)
       refine wc_true rfl rfl ?_
       refine wc_seq ?_; intro K11 hK11
       refine wc_region ?_
       refine wl_y (y_assign rfl) rfl ?_
       refine wl_nil ?_
       refine wq_then_norm (hK11 ?_)
       refine wc_ret ?_
       refine wq_blk_ret ?_
       refine wq_then_ret ?_
       refine hret rfl ?_
       exact ⟨ret_no fun h => by unfold okLeaf at h; omega, E⟩
      ·skip
       refine wl_y (y_move rfl) rfl ?_
       refine wl_gy 35 rfl rfl (y_fieldAddr (o := 3) (s := 1) (off := 0) (o' := 3) rfl Tryz.underlying27 rfl (by kernel_rfl) rfl rfl) rfl ?_
       refine wl_gy 35 rfl rfl (y_load1 rfl Tryz.underlying5 rfl (B1.get (i := 3) rfl)) rfl ?_
       refine wl_gyask 35 rfl rfl (y_gtr rfl rfl) rfl (fun q6 => ?_) (fun q6 => ?_)
       ·skip
        refine wl_y (y_pickf rfl rfl) rfl ?_
        refine wl_y (y_assign rfl) rfl ?_
        refine wl_nil ?_
        refine wq_then_norm (hK10 ?_)
        refine wc_true rfl rfl ?_
        refine wc_seq ?_; intro K12 hK12
        refine wc_region ?_
        refine wl_y (y_assign rfl) rfl ?_
        refine wl_nil ?_
        refine wq_then_norm (hK12 ?_)
        refine wc_ret ?_
        refine wq_blk_ret ?_
        refine wq_then_ret ?_
        refine hret rfl ?_
        exact ⟨ret_no fun h => by unfold okLeaf at h; omega, E⟩
       ·skip
        refine wl_y (y_pickf rfl rfl) rfl ?_
        refine wl_y (y_assign rfl) rfl ?_
        refine wl_nil ?_
        refine wq_then_norm (hK10 ?_)
        refine wc_false rfl rfl ?_
        refine wc_skip ?_
        refine wq_blk_norm ?_
        refine wq_then_norm (hK2 ?_)
        refine wc_seq ?_; intro K13 hK13
        refine wc_region ?_
        refine wl_y (y_fieldAddr (o := 4) (s := 1) (off := 0) (o' := 4) rfl Tryz.underlying27 rfl (by kernel_rfl) rfl rfl) rfl ?_
        refine wl_y (y_load1 rfl Tryz.underlying23 rfl (B1.get (i := 4) rfl)) rfl ?_
        refine wl_y (y_len_slice rfl Tryz.underlying23) rfl ?_
        refine wl_yask (y_eql rfl rfl) rfl (fun q7 => ?_) (fun q7 => ?_)
        ·skip
         refine wl_y (y_move rfl) rfl ?_
         refine wl_gno 44 rfl rfl rfl rfl ?_
         refine wl_gno 44 rfl rfl rfl rfl ?_
         refine wl_gno 44 rfl rfl rfl rfl ?_
         refine wl_gno 44 rfl rfl rfl rfl ?_
         refine wl_gun 48 rfl rfl rfl ?_
         refine wl_gun 48 rfl rfl rfl ?_
         refine wl_gun 48 rfl rfl rfl ?_
         refine wl_gun 48 rfl rfl rfl ?_
         refine wl_gno 44 rfl rfl rfl rfl ?_
         refine wl_y (y_pickt rfl rfl) rfl ?_
         refine wl_y (y_assign rfl) rfl ?_
         refine wl_nil ?_
         refine wq_then_norm (hK13 ?_)
         refine wc_ret ?_
         refine hret rfl ?_
         exact ⟨ret_yes (by unfold okLeaf; omega), E⟩
        ·skip
         refine wl_y (y_move rfl) rfl ?_
         refine wl_gy 44 rfl rfl (y_fieldAddr (o := 3) (s := 1) (off := 0) (o' := 3) rfl Tryz.underlying27 rfl (by kernel_rfl) rfl rfl) rfl ?_
         refine wl_gy 44 rfl rfl (y_load1 rfl Tryz.underlying5 rfl (B1.get (i := 3) rfl)) rfl ?_
         refine wl_gyask 44 rfl rfl (y_eql rfl rfl) rfl (fun q8 => ?_) (fun q8 => ?_)
         ·skip
          refine wl_gy 44 rfl rfl (y_move rfl) rfl ?_
          refine wl_gy 48 rfl rfl (y_fieldAddr (o := 4) (s := 1) (off := 0) (o' := 4) rfl Tryz.underlying27 rfl (by kernel_rfl) rfl rfl) rfl ?_
          refine wl_gy 48 rfl rfl (y_load1 rfl Tryz.underlying23 rfl (B1.get (i := 4) rfl)) rfl ?_
          refine wl_gy 48 rfl rfl (y_len_slice rfl Tryz.underlying23) rfl ?_
          refine wl_gyask 48 rfl rfl (y_eql rfl rfl) rfl (fun q9 => ?_) (fun q9 => ?_)
          ·skip
           refine wl_gy 44 rfl rfl (y_pickt rfl rfl) rfl ?_
           refine wl_y (y_pickf rfl rfl) rfl ?_
           refine wl_y (y_assign rfl) rfl ?_
           refine wl_nil ?_
           refine wq_then_norm (hK13 ?_)
           refine wc_ret ?_
           refine hret rfl ?_
           exact ⟨ret_yes (by unfold okLeaf; omega), E⟩
          ·skip
           refine wl_gy 44 rfl rfl (y_pickt rfl rfl) rfl ?_
           refine wl_y (y_pickf rfl rfl) rfl ?_
           refine wl_y (y_assign rfl) rfl ?_
           refine wl_nil ?_
           refine wq_then_norm (hK13 ?_)
           refine wc_ret ?_
           refine hret rfl ?_
           exact ⟨ret_no fun h => by unfold okLeaf at h; omega, E⟩
         ·skip
          refine wl_gy 44 rfl rfl (y_move rfl) rfl ?_
          refine wl_gno 48 rfl rfl rfl rfl ?_
          refine wl_gno 48 rfl rfl rfl rfl ?_
          refine wl_gno 48 rfl rfl rfl rfl ?_
          refine wl_gno 48 rfl rfl rfl rfl ?_
          refine wl_gy 44 rfl rfl (y_pickf rfl rfl) rfl ?_
          refine wl_y (y_pickf rfl rfl) rfl ?_
          refine wl_y (y_assign rfl) rfl ?_
          refine wl_nil ?_
          refine wq_then_norm (hK13 ?_)
          refine wc_ret ?_
          refine hret rfl ?_
          exact ⟨ret_no fun h => by unfold okLeaf at h; omega, E⟩
end Go.Proofs.YtjllhimhiekchaaGreat

/- From a row's reading of a node, a leaf or ints to the walk's word for them. No conditions beyond the row's own. -/
namespace Go.Proofs.YtjllhimhiekchaaGreat
open Go.ChangeShapes Go.WideShapes Go.ChangeAt Go.RowKit
section
variable {H : Type} {enc : TypeId × Value → H} {W : World} {base : Nat} {spare : Nat → Bool} {held : Bool}
theorem trod_bytesC {fuel : Nat} {cs : List Value} {x : DataW H × List MemPlace} (h : DataW.trod enc Tryz.prog W base spare held fuel 23 cs = some x) : ∃ a n c xs, cs = [.slice a n c] ∧ Bs W a n xs ∧ n ≤ c := by
 have h' := h
 rcases open_ints Tryz.underlying23 Tryz.underlying5 (by kernel_rfl) h with ⟨hcs, _⟩ | ⟨x, l, c, zs, hcs, _⟩
 ·obtain ⟨⟨xs, hb⟩, _, hm⟩ := open_bytesC (a := none) (len := 0) (cap := 0) ⟨fuel, by simpa [Value.cells, hcs] using h'⟩
  exact ⟨none, 0, 0, xs, hcs, hb, hm⟩
 ·obtain ⟨⟨xs, hb⟩, _, hm⟩ := open_bytesC (a := some x) (len := l) (cap := c) ⟨fuel, by simpa [Value.cells, hcs] using h'⟩
  exact ⟨some x, l, c, xs, hcs, hb, hm⟩
end
end Go.Proofs.YtjllhimhiekchaaGreat

/- Whether parents and nodes are right, empty, or the same: what node and the reference answer. -/
namespace Go.Proofs.YtjllhimhiekchaaGreat
open Go.RowKit
attribute [local irreducible] Y Ef WL WC WK WQ WM OpM WN WF OpN
def Leaf.Fit (l : Leaf) : Prop := l.box.length ≤ 1000000 ∧ l.sign.length ≤ 1000000 ∧ l.ident.length ≤ 1000000 ∧ l.parent.length ≤ 1000000 ∧ l.sig.length ≤ 1000000
def Par.Fit (p : Par) : Prop := p.box.length ≤ 1000000 ∧ p.hash.length ≤ 1000000 ∧ p.late.length ≤ 1000000
def Node.Fit (n : Node) : Prop := n.leaf.Fit ∧ n.par.Fit
end Go.Proofs.YtjllhimhiekchaaGreat

namespace Go.Proofs.YtjllhimhiekchaaGreat
open Go.RowKit
attribute [local irreducible] Y Ef WL WC WK WQ WM OpM WN WF OpN
theorem pv_any {A B : Option Addr} {n c m d : Nat} {xs ys : List UInt8} {w : World} (HA : Bs w A n xs) (HB : Bs w B m ys) (hn : n ≤ 1000000000) (hm : m ≤ 1000000000) :
  Calls Tryz.prog 145 #[.slice A n c, .slice B m d] w fun e w' => ∃ A' k c', e = .returned (.slice A' k c') ∧ Row w' w.heap.size 5 A' k c' ((xs ++ Wire.vec ys).map bv) ∧ k ≤ n + m + 4 ∧ Ext w w' :=
 (putVec_any A B n c m d xs ys w HA (by omega) HB (by omega)).mono fun _ _ ⟨A', k, c', h1, h2, h3, h4⟩ => ⟨A', k, c', h1, h2, by have := Wire.lsz_le m; omega, h4⟩
def leafU (l : Leaf) : List UInt8 := Wire.vec l.box ++ Wire.vec l.sign ++ Wire.vec l.ident ++ [UInt8.ofNat l.src] ++ (if l.src = 3 then Wire.vec l.parent else [])
def leafB (l : Leaf) : List UInt8 := leafU l ++ Wire.vec l.sig
theorem vec_le (v : List UInt8) : (Wire.vec v).length ≤ v.length + 4 := by have := Wire.lsz_le v.length; rw [Wire.vec_length]; omega
theorem leafU_le {l : Leaf} (hf : l.Fit) : (leafU l).length ≤ 4000017 := by
 obtain ⟨f0, f1, f2, f4, f5⟩ := hf
 have h0 := vec_le l.box; have h1 := vec_le l.sign; have h2 := vec_le l.ident; have h4 := vec_le l.parent
 unfold leafU
 simp only [List.length_append, List.length_singleton]
 split
 ·omega
 ·simp only [List.length_nil]; omega
theorem leafB_le {l : Leaf} (hf : l.Fit) : (leafB l).length ≤ 5000021 := by
 have h := leafU_le hf
 have h5 := vec_le l.sig
 obtain ⟨f0, f1, f2, f4, f5⟩ := hf
 unfold leafB
 rw [List.length_append]; omega
theorem src_byte {s : Nat} (h : s < 256) : (Value.int .u8 (s : Int)) = bv (UInt8.ofNat s) := by
 unfold bv; congr 1; rw [UInt8.toNat_ofNat']; omega
theorem unsigned_any {A : Option Addr} {n c : Nat} {xs : List UInt8} {cs : Array Value} {l : Leaf} (w : World) (HA : Bs w A n xs) (hn : n ≤ 1000) (H : LeafAt w cs l) (hf : l.Fit) :
  Calls Tryz.prog 227 #[.slice A n c, .agg cs] w fun e w' => ∃ A' k c', e = .returned (.slice A' k c') ∧ Row w' w.heap.size 5 A' k c' ((xs ++ leafU l).map bv) ∧ Ext w w' := by
 obtain ⟨h0, h1, h2, h4, h5, rfl, hs, b0, b1, b2, b4, b5⟩ := H
 have l0 := b0.1; have l1 := b1.1; have l2 := b2.1; have l4 := b4.1; have l5 := b5.1
 have hU := leafU_le hf
 obtain ⟨f0, f1, f2, f4, f5⟩ := hf
 have hxl := HA.1
 have E := Ext.refl w
 obtain ⟨ys, hys⟩ : ∃ ys, ys = [l.box, l.sign, l.ident] := ⟨_, rfl⟩
 obtain ⟨fl, hfl⟩ : ∃ fl : Nat → List UInt8, fl = fun k => ((ys.take k).map Wire.vec).flatten := ⟨_, rfl⟩
 have hfs : ∀ k, k < 3 → fl (k + 1) = fl k ++ Wire.vec (ys.getD k []) := fun k hk => by
  rw [hfl, hys]
  match k, hk with
  | 0, _ => simp
  | 1, _ => simp
  | 2, _ => simp
 have hfle : ∀ k, k < 3 → (fl k).length ≤ 2000008 := fun k hk => by
  have h0 := vec_le l.box; have h1 := vec_le l.sign
  rw [hfl, hys]
  match k, hk with
  | 0, _ => simp
  | 1, _ => simp; omega
  | 2, _ => simp; omega
 have hyl : ∀ k, k < 3 → (ys.getD k []).length ≤ 1000000 := fun k hk => by
  rw [hys]
  match k, hk with
  | 0, _ => exact f0
  | 1, _ => exact f1
  | 2, _ => exact f2
 refine vc_enter1 36 Tryz.func227 rfl rfl rfl rfl ?_
 intro Q hret
 refine wc_seq ?_; intro K1 hK1
 refine wc_region ?_
 refine wl_ef (ef_box rfl rfl) rfl ?_
 rintro _ wB3 ⟨gB3, rfl, B3, hgB3, ex⟩
 have lB3 := B3.lt; have zB3 := ex.size
 replace E := E.ext ex
 refine wl_y (y_assign rfl) rfl ?_
 refine wl_nil ?_
 refine wq_then_norm (hK1 ?_)
 refine wc_seq ?_; intro K2 hK2
 refine wc_seq ?_; intro K3 hK3
 refine wc_region ?_
 refine wl_y (y_fieldAddr (o := 0) (s := 1) (off := 0) (o' := 0) rfl Tryz.underlying27 rfl (by kernel_rfl) rfl rfl) rfl ?_
 refine wl_y (y_load1 rfl Tryz.underlying23 rfl (B3.get (i := 0) rfl)) rfl ?_
 refine wl_y (y_fieldAddr (o := 1) (s := 1) (off := 0) (o' := 1) rfl Tryz.underlying27 rfl (by kernel_rfl) rfl rfl) rfl ?_
 refine wl_y (y_load1 rfl Tryz.underlying23 rfl (B3.get (i := 1) rfl)) rfl ?_
 refine wl_y (y_fieldAddr (o := 2) (s := 1) (off := 0) (o' := 2) rfl Tryz.underlying27 rfl (by kernel_rfl) rfl rfl) rfl ?_
 refine wl_y (y_load1 rfl Tryz.underlying23 rfl (B3.get (i := 2) rfl)) rfl ?_
 have E0 := E; have B3lt := B3.lt
 refine wl_ef (ef_lit (z := .slice none 0 0) Tryz.underlying145 (by kernel_rfl) rfl rfl rfl rfl rfl) rfl ?_
 rintro _ w2 ⟨g13, rfl, B13, hg13, ex⟩
 replace E := E.ext ex
 replace B3 := B3.ext ex
 have F : Ext wB3 w2 := ex; have S13 : Bss w2 (some ⟨g13, 0, none⟩) 3 ys := (by rw [hys]; exact bss_three B13 (Bs.ext b0 E) (Bs.ext b1 E) (Bs.ext b2 E))
 refine wl_y (y_len_slice rfl Tryz.underlying145) rfl ?_
 refine wl_y (y_move rfl) rfl ?_
 refine wl_nil ?_
 refine wq_then_norm (hK3 ?_)
 refine wc_block ?_
 refine wc_loop (fun n' L wr => ∃ (k m e : Nat) (D : Option Addr), L = [(0, .slice D m e), (3, .pointer (some ⟨gB3, 0, none⟩)), (13, .slice (some ⟨g13, 0, none⟩) 3 3), (14, .int .i64 3), (15, .int .i64 (k : Int))] ∧ n' = 3 - k ∧ (k ≤ 3 ∧ Bs wr D m (xs ++ fl k) ∧ (k ≠ 0 → Row wr wB3.heap.size 5 D m e ((xs ++ fl k).map bv)) ∧ Ext wB3 wr ∧ Blk wr gB3 27 (leafV h0 h1 h2 l.src h4 h5) ∧ Bss wr (some ⟨g13, 0, none⟩) 3 ys)) _ _ ⟨0, n, c, A, rfl, rfl, by omega, by rw [hfl]; simpa using HA.ext E, fun h => absurd rfl h, F, B3, S13⟩ ⟨rfl, rfl, rfl, (by first | rfl | exact congrArg some (int_val (by omega))), (by first | rfl | exact congrArg some (int_val (by omega))), trivial⟩ ?_
 rintro KL1 n' L wr ⟨k, m, e, D, rfl, rfl, hk, HD, hrow, F, B3, S13⟩ hL1
 refine wc_seq ?_; intro K4 hK4
 refine wc_region ?_
 refine wl_y (y_lss rfl rfl) rfl ?_
 refine wl_nil ?_
 refine wq_then_norm (hK4 ?_)
 refine wc_seq ?_; intro K5 hK5
 refine wc_dec rfl (fun hc1 => ?_) (fun hc1 => ?_)
 ·skip
  refine wc_skip ?_
  refine wq_then_norm (hK5 ?_)
  refine wc_seq ?_; intro K6 hK6
  refine wc_block ?_
  refine wc_seq ?_; intro K7 hK7
  have hlt : k < 3 := by omega
  obtain ⟨b, off, C, q, f, zs, e1, hzs, hcell, hC⟩ := S13.get hlt
  injection e1 with e1
  injection e1 with e11 e12 _
  subst e11; subst e12
  have hm1 := HD.1
  have hq := hC.1
  have hzl := hyl k hlt
  rw [← hzs.out] at hzl
  have hfk := hfle k hlt
  rw [List.length_append] at hm1
  have hz4 := F.size
  refine wc_region ?_
  refine wl_y (y_ixs1 rfl rfl Tryz.underlying145 (by kernel_rfl) rfl (by omega)) rfl ?_
  refine wl_y (y_load1 rfl Tryz.underlying23 rfl hcell) rfl ?_
  refine wl_y (y_assign rfl) rfl ?_
  refine wl_nil ?_
  refine wq_then_norm (hK7 ?_)
  refine wc_region ?_
  refine wl_y (y_move rfl) rfl ?_
  refine wl_y (y_move rfl) rfl ?_
  refine wl_call Tryz.func145 rfl rfl rfl (pv_any HD hC (by omega) (by omega)) rfl ?_
  rintro e w4 ⟨A4, k4, c4, rfl, R4, hk4, ex⟩
  refine ⟨_, rfl, ?_⟩
  replace F := F.ext ex
  replace B3 := B3.ext ex
  replace S13 := S13.ext ex
  rw [hzs.out, List.append_assoc, ← hfs k hlt] at R4; replace R4 := R4.lower hz4
  refine wl_y (y_assign rfl) rfl ?_
  refine wl_nil ?_
  refine wq_blk_norm ?_
  refine wq_then_norm (hK6 ?_)
  refine wc_region ?_
  refine wl_y (y_add rfl rfl (i64_ok (by omega) (by omega))) rfl ?_
  refine wl_y (y_move rfl) rfl ?_
  refine wl_nil ?_
  refine wq_then_norm ?_
  refine hL1 _ _ ⟨k + 1, k4, c4, A4, rfl, rfl, by omega, R4.bs, fun _ => R4, F, B3, S13⟩ (by omega) ⟨rfl, rfl, rfl, (by first | rfl | exact congrArg some (int_val (by omega))), (by first | rfl | exact congrArg some (int_val (by omega))), trivial⟩
 ·skip
  refine wc_exit ?_
  refine wq_then_exit ?_
  refine wq_then_exit ?_
  refine wq_blk_hit ?_
  refine wq_then_norm (hK2 ?_)
  refine wc_seq ?_; intro K8 hK8
  obtain rfl : k = 3 := by omega
  have R := hrow (by omega)
  have hf3 : fl 3 = Wire.vec l.box ++ Wire.vec l.sign ++ Wire.vec l.ident := by rw [hfl, hys]; simp
  rw [hf3] at R
  have hRl := R.len
  rw [List.length_map, List.length_append] at hRl
  have hU3 : (Wire.vec l.box ++ Wire.vec l.sign ++ Wire.vec l.ident).length ≤ 4000017 := by unfold leafU at hU; simp only [List.length_append] at hU ⊢; omega
  refine wc_region ?_
  refine wl_y (y_move rfl) rfl ?_
  refine wl_y (y_fieldAddr (o := 3) (s := 1) (off := 0) (o' := 3) rfl Tryz.underlying27 rfl (by kernel_rfl) rfl rfl) rfl ?_
  refine wl_y (Y.as (y_load1 rfl Tryz.underlying5 rfl (B3.get (i := 3) rfl)) (src_byte hs)) rfl ?_
  refine wl_ef (ef_lit (z := .int .u8 0) Tryz.underlying23 (by kernel_rfl) rfl rfl rfl rfl rfl) rfl ?_
  rintro _ w5 ⟨g5, rfl, B5, hg5, ex⟩
  replace R := R.ext ex; have hz5 := F.size
  refine wl_ef (ef_app rfl rfl eltB R (At.blk (vs := [UInt8.ofNat l.src].map bv) (B5.congr (by rfl))) rfl (by intro u hu; exact bv_one u hu) (by omega) (by omega) (Nat.le_trans F.size ex.size)) rfl ?_
  rintro _ w6 ⟨A6, c6, rfl, R6, be, gr, hl⟩
  replace F := (F.ext ex).trans be; replace R6 := R6.cat; replace B3 := (B3.ext ex).below be B3lt; have E := E0.tr F
  refine wl_y (y_assign rfl) rfl ?_
  refine wl_nil ?_
  refine wq_then_norm (hK8 ?_)
  refine wc_seq ?_; intro K9 hK9
  refine wc_seq ?_; intro K10 hK10
  refine wc_region ?_
  refine wl_y (y_fieldAddr (o := 3) (s := 1) (off := 0) (o' := 3) rfl Tryz.underlying27 rfl (by kernel_rfl) rfl rfl) rfl ?_
  refine wl_y (y_load1 rfl Tryz.underlying5 rfl (B3.get (i := 3) rfl)) rfl ?_
  refine wl_y (y_eql rfl rfl) rfl ?_
  refine wl_nil ?_
  refine wq_then_norm (hK10 ?_)
  refine wc_dec rfl (fun hc2 => ?_) (fun hc2 => ?_)
  ·skip
   refine wc_region ?_
   refine wl_y (y_move rfl) rfl ?_
   refine wl_y (y_fieldAddr (o := 4) (s := 1) (off := 0) (o' := 4) rfl Tryz.underlying27 rfl (by kernel_rfl) rfl rfl) rfl ?_
   refine wl_y (y_load1 rfl Tryz.underlying23 rfl (B3.get (i := 4) rfl)) rfl ?_
   have hz8 := E.size
   refine wl_call Tryz.func145 rfl rfl rfl (pv_any R6.bs (Bs.ext b4 E) (by omega) (by omega)) rfl ?_
   rintro e w7 ⟨A7, k7, c7, rfl, R7, hk7, ex⟩
   refine ⟨_, rfl, ?_⟩
   replace E := E.ext ex
   refine wl_y (y_assign rfl) rfl ?_
   refine wl_nil ?_
   refine wq_then_norm (hK9 ?_)
   refine wc_seq ?_; intro K11 hK11
   refine wc_region ?_
   refine wl_y (y_move rfl) rfl ?_
   refine wl_y (y_assign rfl) rfl ?_
   refine wl_nil ?_
   refine wq_then_norm (hK11 ?_)
   refine wc_ret ?_
   refine hret rfl ?_
   refine ⟨A7, k7, c7, rfl, (R7.lower hz8).congr rfl ?_, E⟩
   unfold leafU
   rw [if_pos (by omega)]
   simp only [List.append_assoc]
  ·skip
   refine wc_skip ?_
   refine wq_then_norm (hK9 ?_)
   refine wc_seq ?_; intro K12 hK12
   refine wc_region ?_
   refine wl_y (y_move rfl) rfl ?_
   refine wl_y (y_assign rfl) rfl ?_
   refine wl_nil ?_
   refine wq_then_norm (hK12 ?_)
   refine wc_ret ?_
   refine hret rfl ?_
   refine ⟨A6, _, c6, rfl, (R6.lower E0.size).congr rfl ?_, E⟩
   unfold leafU
   rw [if_neg (by omega)]
   simp only [List.append_assoc, List.append_nil]
def leafE (l : Leaf) : List UInt8 × Nat := if okLeaf l then (leafB l, 0) else ([], 3)
theorem LeafBytes_any {cs : Array Value} {l : Leaf} (w : World) (H : LeafAt w cs l) (hf : l.Fit) :
  Calls Tryz.prog 230 #[.agg cs] w fun e w' => ∃ A' k c', e = .returned (.tuple #[.slice A' k c', .int .u8 (((leafE l).2 : Nat) : Int)]) ∧ Row w' w.heap.size 5 A' k c' ((leafE l).1.map bv) ∧ Ext w w' := by
 have hU := leafU_le hf
 have HH := H
 obtain ⟨h0, h1, h2, h4, h5, rfl, hs, b0, b1, b2, b4, b5⟩ := H
 have l5 := b5.1
 obtain ⟨f0, f1, f2, f4, f5⟩ := id hf
 have E := Ext.refl w
 refine vc_enter2 12 Tryz.func230 rfl rfl rfl rfl ?_
 intro Q hret
 refine wc_seq ?_; intro K1 hK1
 refine wc_region ?_
 refine wl_ef (ef_box rfl rfl) rfl ?_
 rintro _ wB1 ⟨gB1, rfl, B1, hgB1, ex⟩
 have lB1 := B1.lt; have zB1 := ex.size
 replace E := E.ext ex
 refine wl_y (y_assign rfl) rfl ?_
 refine wl_y (y_assign rfl) rfl ?_
 refine wl_nil ?_
 refine wq_then_norm (hK1 ?_)
 refine wc_seq ?_; intro K2 hK2
 refine wc_seq ?_; intro K3 hK3
 refine wc_region ?_
 refine wl_y (y_loadx (o := 0) (s := 6) rfl Tryz.underlying27 rfl (by kernel_rfl) B1 rfl) rfl ?_
 refine wl_call Tryz.func168 rfl rfl rfl (rightLeaf_any _ (HH.ext E)) rfl ?_
 rintro e w2 ⟨rfl, ex⟩
 refine ⟨_, rfl, ?_⟩
 replace E := E.ext ex
 replace B1 := B1.ext ex
 skip
 refine wl_y (y_not rfl) rfl ?_
 refine wl_nil ?_
 refine wq_then_norm (hK3 ?_)
 refine wc_cond rfl (fun hc1 => ?_) (fun hc1 => ?_)
 ·skip
  refine wc_seq ?_; intro K4 hK4
  refine wc_region ?_
  refine wl_y (y_assign rfl) rfl ?_
  refine wl_y (y_assign rfl) rfl ?_
  refine wl_nil ?_
  refine wq_then_norm (hK4 ?_)
  refine wc_ret ?_
  refine wq_then_ret ?_
  refine hret rfl rfl ?_
  have hno : ¬ okLeaf l := by simpa using hc1
  have e1 : leafE l = ([], 3) := by unfold leafE; rw [if_neg hno]
  rw [e1]
  exact ⟨none, 0, 0, rfl, Row.empty _ _ _, E⟩
 ·skip
  refine wc_skip ?_
  refine wq_then_norm (hK2 ?_)
  refine wc_seq ?_; intro K5 hK5
  refine wc_draw (by kernel_rfl) 7 rfl ?_; intro wd3 ex hd3
  replace E := E.ext ex
  replace B1 := B1.ext ex
  refine wm_y 0 rfl (by kernel_rfl) (y_loadx (o := 0) (s := 6) rfl Tryz.underlying27 rfl (by kernel_rfl) B1 rfl) rfl ?_
  refine wm_y 2 rfl (by kernel_rfl) (y_fieldAddr (o := 5) (s := 1) (off := 0) (o' := 5) rfl Tryz.underlying27 rfl (by kernel_rfl) rfl rfl) rfl ?_
  refine wm_y 3 rfl (by kernel_rfl) (y_load1 rfl Tryz.underlying23 rfl (B1.get (i := 5) rfl)) rfl ?_
  refine wm_one 1 (by kernel_rfl) ?_; refine om_call rfl Tryz.func227 rfl rfl rfl (unsigned_any _ (Bs.nil _ none) (by omega) (HH.ext E) hf) rfl ?_
  rintro e w3 ⟨A3, k3, c3, rfl, R3, ex⟩
  refine ⟨_, rfl, .inr ex, ?_⟩
  replace E := E.ext ex
  replace B1 := B1.ext ex
  have hk3 := R3.bs.1
  have hz3 := E.size; rw [List.nil_append] at hk3
  refine wm_one 4 (by kernel_rfl) ?_; refine om_call rfl Tryz.func145 rfl rfl rfl (pv_any R3.bs (Bs.ext b5 E) (by omega) (by omega)) rfl ?_
  rintro e w4 ⟨A4, k4, c4, rfl, R4, hk4, ex⟩
  refine ⟨_, rfl, .inr ex, ?_⟩
  replace E := E.ext ex
  replace B1 := B1.ext ex
  replace R3 := R3.ext ex
  skip
  refine wm_y 5 rfl (by kernel_rfl) (y_assign rfl) rfl ?_
  refine wm_y 6 rfl (by kernel_rfl) (y_assign rfl) rfl ?_
  refine wm_done (by kernel_rfl) ?_
  refine wq_nop ?_
  refine wq_then_norm (hK5 ?_)
  refine wc_ret ?_
  refine hret rfl rfl ?_
  have hyes : okLeaf l := by simpa using hc1
  have e1 : leafE l = (leafB l, 0) := by unfold leafE; rw [if_pos hyes]
  rw [e1]
  exact ⟨A4, k4, c4, rfl, (R4.lower hz3).congr rfl (by unfold leafB; rw [List.nil_append]), E⟩
end Go.Proofs.YtjllhimhiekchaaGreat
