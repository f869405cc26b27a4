/- A range over a function whose body is any code: judgements for what runs in a round. No conditions: plain lemmas of the model. -/
import Derived.Test.YtjllhimhiekchaaGreatNdM
import Derived.Test.YtjllhimhiekchaaGreatChunkA
import Derived.Test.YtjllhimhiekchaaGreatWireR
import Derived.Test.YtjllhimhiekchaaGreatVk
import Derived.Sort.LoopGhostIn
/- A leaf with a signature: what node.SignLeaf hands back. -/
namespace Go.Proofs.YtjllhimhiekchaaGreat
open Go.RowKit
attribute [local irreducible] Y Ef WL WC WK WQ WM OpM WN WF OpN WJ OpJ
open Wire Nd
theorem zeros64 {w : World} {g : Nat} {cs : Array Value} (h : Blk w g 5 cs) (hc : cs = ((List.replicate 64 (0 : UInt8)).map bv).toArray) : Bs w (some ⟨g, 0, none⟩) 64 (List.replicate 64 0) :=
 bs_blk' (h.congr hc) (by rfl)
theorem label_at {A : Option Addr} {n c : Nat} {xs : List UInt8} {s : ByteArray} {B : Option Addr} {m d : Nat} {ts ys : List UInt8} {y : Nat} (w : World) (HA : Bs w A n xs) (HB : Bs w B m ts) (hn : n ≤ 100000) (hs : s.size ≤ 1000) (hm : m ≤ 90000) (h : sigE xs (Sg.text s.data.toList ts) = (ys, y)) :
  Calls Tryz.prog 29 #[.slice A n c, .string s, .slice B m d] w fun e w' => ∃ A' k c', e = .returned (.tuple #[.slice A' k c', .int .u8 (y : Int)]) ∧ Bs w' A' k ys ∧ k ≤ c' ∧ Ext w w' :=
 (Label_any A n c xs s B m d ts w HA HB hn hs hm).mono fun _ _ ⟨A', k, c', h1, h2, h3, h4⟩ => ⟨A', k, c', by rw [h1, h], by rw [h] at h2; exact h2, h3, h4⟩
def Leaf.put (l : Leaf) (s : List UInt8) : Leaf := ⟨l.box, l.sign, l.ident, l.src, l.parent, s⟩
def wantL (l : Leaf) : Leaf := l.put (List.replicate 64 0)
def signX (l : Leaf) (seed gs : List UInt8) (z : Int) : Leaf × Nat :=
 if ¬ okLeaf (wantL l) then (Leaf.zero, 3)
 else if ¬ okAt l z then (Leaf.zero, 1)
 else if (sigE seed (Sg.text lab.data.toList (leafT l gs z))).2 ≠ 0 then (Leaf.zero, (sigE seed (Sg.text lab.data.toList (leafT l gs z))).2)
 else (l.put (sigE seed (Sg.text lab.data.toList (leafT l gs z))).1, 0)
theorem sigE_len {s t ys : List UInt8} {y : Nat} (h : sigE s t = (ys, y)) (hy : y = 0) : ys.length = 64 := by
 unfold sigE at h
 split at h
 ·injection h with h _; rw [← h]; exact Sg.sig_length _ _
 ·injection h with _ h; omega
theorem Bs.notin {w : World} {b : Nat} {t : TypeId} {cs : Array Value} {A : Option Addr} {n : Nat} {xs : List UInt8} (H : Bs w A n xs) (B : Blk w b t cs) (hn : cs.size < n) : ∀ o, A ≠ some ⟨b, o, none⟩ := fun o e => by
 obtain ⟨b', off, hA, _, hc⟩ := H.2.get (k := n - 1) (by rw [List.length_map, H.1]; omega)
 rw [hA] at e
 injection e with e
 injection e with e1 e2
 subst e1
 rw [B.cell, Array.getElem?_eq_none (by omega)] at hc
 cases hc
section
variable {w w' : World} {cs : Array Value} {l : Leaf} {base : Nat} {i0 i1 i2 i4 i5 h : Hd} {xs : List UInt8}
theorem LeafR.inj (h : LeafR base w (leafV i0 i1 i2 l.src i4 i5) l) : l.src < 256 ∧ Row w base 5 i0.A i0.n i0.c (l.box.map bv) ∧ Row w base 5 i1.A i1.n i1.c (l.sign.map bv) ∧ Row w base 5 i2.A i2.n i2.c (l.ident.map bv) ∧ Row w base 5 i4.A i4.n i4.c (l.parent.map bv) := by
 obtain ⟨j0, j1, j2, j4, j5, e, hs, q0, q1, q2, q4, q5⟩ := h
 have e0 : j0 = i0 ∧ j1 = i1 ∧ j2 = i2 ∧ j4 = i4 := by
  unfold leafV at e
  simp only [Array.mk.injEq, List.cons.injEq, Value.slice.injEq, and_true, true_and] at e
  obtain ⟨a, b, c, d, f⟩ := e
  refine ⟨?_, ?_, ?_, ?_⟩
  ·cases i0; cases j0; simp_all
  ·cases i1; cases j1; simp_all
  ·cases i2; cases j2; simp_all
  ·cases i4; cases j4; simp_all
 obtain ⟨rfl, rfl, rfl, rfl⟩ := e0
 exact ⟨hs, q0, q1, q2, q4⟩
theorem LeafAc.mk (hs : l.src < 256) (r0 : Row w base 5 i0.A i0.n i0.c (l.box.map bv)) (r1 : Row w base 5 i1.A i1.n i1.c (l.sign.map bv)) (r2 : Row w base 5 i2.A i2.n i2.c (l.ident.map bv)) (r4 : Row w base 5 i4.A i4.n i4.c (l.parent.map bv)) (b : Bs w h.A h.n xs) (hc : h.n ≤ h.c) : LeafAc w (leafV i0 i1 i2 l.src i4 h) (l.put xs) :=
 ⟨i0, i1, i2, i4, h, rfl, hs, ⟨r0.bs, r0.cap⟩, ⟨r1.bs, r1.cap⟩, ⟨r2.bs, r2.cap⟩, ⟨r4.bs, r4.cap⟩, b, hc⟩
theorem LeafAc.zero (w : World) : LeafAc w zLeafV Leaf.zero := ⟨nilH, nilH, nilH, nilH, nilH, rfl, by decide, ⟨Bs.nil _ _, Nat.le_refl _⟩, ⟨Bs.nil _ _, Nat.le_refl _⟩, ⟨Bs.nil _ _, Nat.le_refl _⟩, ⟨Bs.nil _ _, Nat.le_refl _⟩, Bs.nil _ _, Nat.le_refl _⟩
end
theorem idZ (base : Nat) (w : World) : ∀ (A : Option Addr) (n c : Nat), zLeafV[2]? = some (.slice A n c) → Fb base w A n Leaf.zero.ident := fun A n c e => by
 have e' : some (Value.slice none 0 0) = some (.slice A n c) := e
 injection e' with e'
 injection e' with e1 e2 _
 rw [← e1, ← e2]; exact Fb.nil _ _ _
theorem idF {base : Nat} {w : World} {h0 h1 h2 h4 h5 : Hd} {s : Nat} {xs : List UInt8} (H : Fb base w h2.A h2.n xs) : ∀ (A : Option Addr) (n c : Nat), (leafV h0 h1 h2 s h4 h5)[2]? = some (.slice A n c) → Fb base w A n xs := fun A n c e => by
 have e' : some (Value.slice h2.A h2.n h2.c) = some (.slice A n c) := e
 injection e' with e'
 injection e' with e1 e2 _
 rw [← e1, ← e2]; exact H
set_option maxHeartbeats 1000000 in
theorem signLeaf_any {cs : Array Value} {l : Leaf} {A : Option Addr} {n c : Nat} {seed : List UInt8} {B : Option Addr} {m d : Nat} {gs : List UInt8} {z : Int} (w : World) (H : LeafAt w cs l) (hf : l.Fit) (hU : (leafU l).length ≤ 80000) (HA : Bs w A n seed) (hn : n ≤ 100) (HB : Bs w B m gs) (hm : m ≤ 100) :
  Calls Tryz.prog 82 #[.agg cs, .slice A n c, .slice B m d, .int .i64 z] w fun e w' => ∃ cs', e = .returned (.tuple #[.agg cs', .int .u8 (((signX l seed gs z).2 : Nat) : Int)]) ∧ LeafAc w' cs' (signX l seed gs z).1 ∧ (∀ (A : Option Addr) (n c : Nat), cs'[2]? = some (.slice A n c) → Fb w.heap.size w' A n (signX l seed gs z).1.ident) ∧ Ext w w' := by
 have HL := H
 obtain ⟨h0, h1, h2, h4, h5, rfl, hs, _⟩ := H
 have hT := leafT_le (z := z) hU (show gs.length ≤ 100 by rw [HB.1]; exact hm)
 have fw : (wantL l).Fit := ⟨hf.1, hf.2.1, hf.2.2.1, hf.2.2.2.1, (show (List.replicate 64 (0 : UInt8)).length ≤ 1000000 by rw [List.length_replicate]; omega)⟩
 obtain ⟨ys, y, hE⟩ : ∃ ys y, sigE seed (Sg.text lab.data.toList (leafT l gs z)) = (ys, y) := ⟨_, _, rfl⟩
 have F := Chs.refl [] w
 refine vc_enterct (s := 6) 45 Tryz.func82 rfl rfl rfl Tryz.underlying27 rfl (by kernel_rfl) rfl ?_
 intro Q hret
 refine wc_seq ?_; intro K1 hK1
 refine wc_region ?_
 refine wl_ef (ef_box rfl rfl) rfl ?_
 rintro _ wB4 ⟨gB4, rfl, B4, hgB4, ex⟩
 have lB4 := B4.lt; have zB4 := ex.size
 replace F := F.ext ex
 refine wl_ef (ef_alloc (Z := #[.slice none 0 0, .slice none 0 0, .slice none 0 0, .int .u8 0, .slice none 0 0, .slice none 0 0]) (by kernel_rfl)) rfl ?_
 rintro _ wB8 ⟨gB8, rfl, B8, hgB8, ex⟩
 have lB8 := B8.lt; have zB8 := ex.size
 replace F := F.grow ex hgB8
 replace B4 := B4.grow ex hgB8
 refine wl_y (y_assign rfl) rfl ?_
 refine wl_nil ?_
 refine wq_then_norm (hK1 ?_)
 refine wc_seq ?_; intro K2 hK2
 refine wc_region ?_
 replace F := F.mono (S' := [gB8, gB4]) (by simp)
 refine wl_y (y_loadx (o := 0) (s := 6) rfl Tryz.underlying27 rfl (by kernel_rfl) B4 rfl) rfl ?_
 have HL1 := HL.ext (F.toExt (by simp; omega)); have z1 := F.size; have m1 := B4.lt; have n1 := B8.lt
 refine wl_call Tryz.func167 rfl rfl rfl (copyLeaf_any _ HL1 hf) rfl ?_
 rintro e w2 ⟨cs2, rfl, LR, ex⟩
 refine ⟨_, rfl, ?_⟩
 replace F := F.ext ex
 replace B4 := B4.ext ex
 replace B8 := B8.ext ex
 have LR2 := LR; obtain ⟨i0, i1, i2, i4, i5, rfl, _⟩ := LR2; obtain ⟨_, r0, r1, r2, r4⟩ := LR.inj
 refine wl_ef (ef_storeP (o := 0) rfl rfl (by kernel_rfl) B4 (Nat.le_of_ble_eq_true rfl) (all_ones rfl)) rfl ?_
 rintro _ wS1_2 ⟨rfl, D, cg⟩
 have ex := Chs.one cg
 clear cg
 replace F := F.chs ex
 replace B8 := B8.chs ex
 replace r0 := r0.chs ex
 replace r1 := r1.chs ex
 replace r2 := r2.chs ex
 replace r4 := r4.chs ex
 replace B4 := D; clear D
 replace B4 := B4.congr (cs' := leafV i0 i1 i2 l.src i4 i5) rfl
 refine wl_nil ?_
 refine wq_then_norm (hK2 ?_)
 refine wc_seq ?_; intro K3 hK3
 refine wc_region ?_
 have z2 := F.size; have m2 := B4.lt; have n2 := B8.lt
 refine wl_ef (ef_make (n := 64) (z := .int .u8 0) (bytes := 1) rfl rfl Tryz.underlying23 (by kernel_rfl) rfl rfl rfl rfl (by omega) (by omega)) rfl ?_
 rintro _ w3 ⟨g5, rfl, B5, hg5, ex⟩
 replace F := F.ext ex
 replace B4 := B4.ext ex
 replace B8 := B8.ext ex
 replace r0 := r0.ext ex
 replace r1 := r1.ext ex
 replace r2 := r2.ext ex
 replace r4 := r4.ext ex
 have J5 : Kp w3.heap.size [gB8, gB4] (fun w => Bs w (some ⟨g5, 0, none⟩) 64 (List.replicate 64 0)) w3 := Kp.bs (zeros64 B5 (by rfl)) (fun _ g hg o e => by simp at hg e; omega)
 refine wl_y (y_fieldAddr (o := 5) (s := 1) (off := 0) (o' := 5) rfl Tryz.underlying27 rfl (by kernel_rfl) rfl rfl) rfl ?_
 refine wl_ef (ef_storeB (i := 5) rfl rfl rfl (by kernel_rfl) B4 (Nat.le_of_ble_eq_true rfl)) rfl ?_
 rintro _ wS2_2 ⟨rfl, D, cg⟩
 have ex := Chs.one cg
 clear cg
 replace F := F.chs ex
 replace B8 := B8.chs ex
 replace r0 := r0.chs ex
 replace r1 := r1.chs ex
 replace r2 := r2.chs ex
 replace r4 := r4.chs ex
 replace J5 := J5.chs ex
 replace B4 := D; clear D
 replace B4 := B4.congr (cs' := leafV i0 i1 i2 l.src i4 ⟨some ⟨g5, 0, none⟩, 64, 64⟩) rfl
 refine wl_nil ?_
 refine wq_then_norm (hK3 ?_)
 refine wc_seq ?_; intro K4 hK4
 refine wc_seq ?_; intro K5 hK5
 refine wc_region ?_
 refine wl_y (y_loadx (o := 0) (s := 6) rfl Tryz.underlying27 rfl (by kernel_rfl) B4 rfl) rfl ?_
 refine wl_call Tryz.func168 rfl rfl rfl (rightLeaf_any _ (LeafAc.mk (h := ⟨some ⟨g5, 0, none⟩, 64, 64⟩) hs r0 r1 r2 r4 J5.out (Nat.le_refl 64)).at) rfl ?_
 rintro e w4 ⟨rfl, ex⟩
 refine ⟨_, rfl, ?_⟩
 replace F := F.ext ex
 replace B4 := B4.ext ex
 replace B8 := B8.ext ex
 replace r0 := r0.ext ex
 replace r1 := r1.ext ex
 replace r2 := r2.ext ex
 replace r4 := r4.ext ex
 replace J5 := J5.ext ex
 skip
 refine wl_y (y_not rfl) rfl ?_
 refine wl_nil ?_
 refine wq_then_norm (hK5 ?_)
 refine wc_cond rfl (fun hc1 => ?_) (fun hc1 => ?_)
 ·skip
  refine wc_seq ?_; intro K6 hK6
  refine wc_region ?_
  refine wl_y (y_build rfl (cells := zLeafV) (by kernel_rfl)) rfl ?_
  refine wl_ef (ef_storeP (o := 0) rfl rfl (by kernel_rfl) B8 (Nat.le_of_ble_eq_true rfl) (all_ones rfl)) rfl ?_
  rintro _ wS4_1 ⟨rfl, D, cg⟩
  have ex := Chs.one cg
  clear cg
  replace F := F.chs ex
  replace B4 := B4.chs ex
  replace r0 := r0.chs ex
  replace r1 := r1.chs ex
  replace r2 := r2.chs ex
  replace r4 := r4.chs ex
  replace J5 := J5.chs ex
  replace B8 := D; clear D
  replace B8 := B8.congr (cs' := zLeafV) rfl
  refine wl_y (y_assign rfl) rfl ?_
  refine wl_nil ?_
  refine wq_then_norm (hK6 ?_)
  refine wc_ret ?_
  refine wq_then_ret ?_
  refine hret rfl rfl B8 rfl ?_
  have hno : ¬ okLeaf (wantL l) := by simpa [wantL] using hc1
  have e1 : signX l seed gs z = (Leaf.zero, 3) := by unfold signX; rw [if_pos hno]
  rw [e1]; exact ⟨zLeafV, rfl, LeafAc.zero _, idZ _ _, F.toExt (by simp; omega)⟩
 ·skip
  refine wc_skip ?_
  refine wq_then_norm (hK4 ?_)
  refine wc_seq ?_; intro K7 hK7
  have okw : okLeaf (wantL l) := by simpa [wantL] using hc1
  refine wc_region ?_
  refine wl_y (y_loadx (o := 0) (s := 6) rfl Tryz.underlying27 rfl (by kernel_rfl) B4 rfl) rfl ?_
  refine wl_y (y_move rfl) rfl ?_
  refine wl_y (y_move rfl) rfl ?_
  have X5 := F.toExt (by simp; omega); have z5 := F.size; have m5 := B4.lt; have n5 := B8.lt
  refine wl_call Tryz.func169 rfl rfl rfl (text16_any (l := wantL l) _ (LeafAc.mk (h := ⟨some ⟨g5, 0, none⟩, 64, 64⟩) hs r0 r1 r2 r4 J5.out (Nat.le_refl 64)).at fw (HB.ext X5) (by omega)) rfl ?_
  rintro e w5 ⟨A10, k10, c10, rfl, R10, ex⟩
  refine ⟨_, rfl, ?_⟩
  replace F := F.ext ex
  replace B4 := B4.ext ex
  replace B8 := B8.ext ex
  replace r0 := r0.ext ex
  replace r1 := r1.ext ex
  replace r2 := r2.ext ex
  replace r4 := r4.ext ex
  replace J5 := J5.ext ex
  have hk10 : (leafT l gs z).length = k10 := R10.bs.1
  refine wl_y (y_move rfl) rfl ?_
  refine wl_y (y_extract rfl rfl) rfl ?_
  refine wl_y (y_extract rfl rfl) rfl ?_
  refine wl_y (y_assign rfl) rfl ?_
  refine wl_y (y_assign rfl) rfl ?_
  refine wl_nil ?_
  refine wq_then_norm (hK7 ?_)
  refine wc_seq ?_; intro K8 hK8
  refine wc_seq ?_; intro K9 hK9
  refine wc_region ?_
  refine wl_y (y_move rfl) rfl ?_
  refine wl_y (y_not rfl) rfl ?_
  refine wl_nil ?_
  refine wq_then_norm (hK9 ?_)
  refine wc_cond rfl (fun hc2 => ?_) (fun hc2 => ?_)
  ·skip
   refine wc_seq ?_; intro K10 hK10
   refine wc_region ?_
   refine wl_y (y_build rfl (cells := zLeafV) (by kernel_rfl)) rfl ?_
   refine wl_ef (ef_storeP (o := 0) rfl rfl (by kernel_rfl) B8 (Nat.le_of_ble_eq_true rfl) (all_ones rfl)) rfl ?_
   rintro _ wS7_1 ⟨rfl, D, cg⟩
   have ex := Chs.one cg
   clear cg
   replace F := F.chs ex
   replace B4 := B4.chs ex
   replace r0 := r0.chs ex
   replace r1 := r1.chs ex
   replace r2 := r2.chs ex
   replace r4 := r4.chs ex
   replace J5 := J5.chs ex
   replace R10 := R10.chs ex
   replace B8 := D; clear D
   replace B8 := B8.congr (cs' := zLeafV) rfl
   refine wl_y (y_assign rfl) rfl ?_
   refine wl_nil ?_
   refine wq_then_norm (hK10 ?_)
   refine wc_ret ?_
   refine wq_then_ret ?_
   refine hret rfl rfl B8 rfl ?_
   have hno : ¬ okAt l z := (show ¬ okAt (wantL l) z from by simpa using hc2)
   have e1 : signX l seed gs z = (Leaf.zero, 1) := by unfold signX; rw [if_neg (fun h => h okw), if_pos hno]
   rw [e1]; exact ⟨zLeafV, rfl, LeafAc.zero _, idZ _ _, F.toExt (by simp; omega)⟩
  ·skip
   refine wc_skip ?_
   refine wq_then_norm (hK8 ?_)
   refine wc_seq ?_; intro K11 hK11
   have oka : okAt l z := (show okAt (wantL l) z from by simpa using hc2)
   refine wc_region ?_
   refine wl_y (y_move rfl) rfl ?_
   refine wl_y (y_move rfl) rfl ?_
   have X8 := F.toExt (by simp; omega); have z8 := F.size; have m8 := B4.lt; have n8 := B8.lt
   refine wl_call Tryz.func29 rfl rfl rfl (label_at _ (HA.ext X8) (show Bs _ _ _ (leafT l gs z) from R10.bs) (by omega) lab_size (by omega) hE) rfl ?_
   rintro e w6 ⟨A12, k12, c12, rfl, H12, hc12, ex⟩
   refine ⟨_, rfl, ?_⟩
   replace F := F.ext ex
   replace B4 := B4.ext ex
   replace B8 := B8.ext ex
   replace r0 := r0.ext ex
   replace r1 := r1.ext ex
   replace r2 := r2.ext ex
   replace r4 := r4.ext ex
   replace J5 := J5.ext ex
   replace R10 := R10.ext ex
   skip
   refine wl_y (y_move rfl) rfl ?_
   refine wl_y (y_extract rfl rfl) rfl ?_
   refine wl_y (y_extract rfl rfl) rfl ?_
   refine wl_y (y_assign rfl) rfl ?_
   refine wl_y (y_assign rfl) rfl ?_
   refine wl_nil ?_
   refine wq_then_norm (hK11 ?_)
   refine wc_seq ?_; intro K12 hK12
   refine wc_seq ?_; intro K13 hK13
   refine wc_region ?_
   refine wl_y (y_move rfl) rfl ?_
   refine wl_y (y_neq rfl rfl) rfl ?_
   refine wl_nil ?_
   refine wq_then_norm (hK13 ?_)
   refine wc_dec rfl (fun hc3 => ?_) (fun hc3 => ?_)
   ·skip
    refine wc_seq ?_; intro K14 hK14
    have e1 : signX l seed gs z = (Leaf.zero, y) := by unfold signX; rw [hE, if_neg (fun h => h okw), if_neg (fun h => h oka), if_pos (show y ≠ 0 by omega)]
    refine wc_region ?_
    refine wl_y (y_build rfl (cells := zLeafV) (by kernel_rfl)) rfl ?_
    refine wl_y (y_move rfl) rfl ?_
    refine wl_ef (ef_storeP (o := 0) rfl rfl (by kernel_rfl) B8 (Nat.le_of_ble_eq_true rfl) (all_ones rfl)) rfl ?_
    rintro _ wS10_2 ⟨rfl, D, cg⟩
    have ex := Chs.one cg
    clear cg
    replace F := F.chs ex
    replace B4 := B4.chs ex
    replace r0 := r0.chs ex
    replace r1 := r1.chs ex
    replace r2 := r2.chs ex
    replace r4 := r4.chs ex
    replace J5 := J5.chs ex
    replace R10 := R10.chs ex
    replace B8 := D; clear D
    replace B8 := B8.congr (cs' := zLeafV) rfl
    refine wl_y (y_assign rfl) rfl ?_
    refine wl_nil ?_
    refine wq_then_norm (hK14 ?_)
    refine wc_ret ?_
    refine wq_then_ret ?_
    refine hret rfl rfl B8 rfl ?_
    rw [e1]; exact ⟨zLeafV, rfl, LeafAc.zero _, idZ _ _, F.toExt (by simp; omega)⟩
   ·skip
    refine wc_skip ?_
    refine wq_then_norm (hK12 ?_)
    refine wc_seq ?_; intro K15 hK15
    have e1 : signX l seed gs z = (l.put ys, 0) := by unfold signX; rw [hE, if_neg (fun h => h okw), if_neg (fun h => h oka), if_neg (show ¬ y ≠ 0 by omega)]
    have hk12 : k12 = 64 := by rw [← H12.1]; exact sigE_len hE (by omega)
    have J12 : Kp w6.heap.size [gB8, gB4] (fun w => Bs w A12 k12 ys) w6 := Kp.bs H12 fun _ g hg o e => by
     rcases List.mem_cons.1 hg with rfl | hg
     ·exact H12.notin B8 (show (6 : Nat) < _ by omega) o e
     ·obtain rfl := List.mem_singleton.1 hg
      exact H12.notin B4 (show (6 : Nat) < _ by omega) o e
    refine wc_region ?_
    refine wl_y (y_move rfl) rfl ?_
    refine wl_y (y_fieldAddr (o := 5) (s := 1) (off := 0) (o' := 5) rfl Tryz.underlying27 rfl (by kernel_rfl) rfl rfl) rfl ?_
    refine wl_ef (ef_storeB (i := 5) rfl rfl rfl (by kernel_rfl) B4 (Nat.le_of_ble_eq_true rfl)) rfl ?_
    rintro _ wS11_2 ⟨rfl, D, cg⟩
    have ex := Chs.one cg
    clear cg
    replace F := F.chs ex
    replace B8 := B8.chs ex
    replace r0 := r0.chs ex
    replace r1 := r1.chs ex
    replace r2 := r2.chs ex
    replace r4 := r4.chs ex
    replace J5 := J5.chs ex
    replace R10 := R10.chs ex
    replace J12 := J12.chs ex
    replace B4 := D; clear D
    replace B4 := B4.congr (cs' := leafV i0 i1 i2 l.src i4 ⟨A12, k12, c12⟩) rfl
    refine wl_nil ?_
    refine wq_then_norm (hK15 ?_)
    refine wc_seq ?_; intro K16 hK16
    refine wc_region ?_
    refine wl_y (y_loadx (o := 0) (s := 6) rfl Tryz.underlying27 rfl (by kernel_rfl) B4 rfl) rfl ?_
    refine wl_ef (ef_storeP (o := 0) rfl rfl (by kernel_rfl) B8 (Nat.le_of_ble_eq_true rfl) (all_ones rfl)) rfl ?_
    rintro _ wS12_1 ⟨rfl, D, cg⟩
    have ex := Chs.one cg
    clear cg
    replace F := F.chs ex
    replace B4 := B4.chs ex
    replace r0 := r0.chs ex
    replace r1 := r1.chs ex
    replace r2 := r2.chs ex
    replace r4 := r4.chs ex
    replace J5 := J5.chs ex
    replace R10 := R10.chs ex
    replace J12 := J12.chs ex
    replace B8 := D; clear D
    replace B8 := B8.congr (cs' := leafV i0 i1 i2 l.src i4 ⟨A12, k12, c12⟩) rfl
    refine wl_y (y_assign rfl) rfl ?_
    refine wl_nil ?_
    refine wq_then_norm (hK16 ?_)
    refine wc_ret ?_
    refine hret rfl rfl B8 rfl ?_
    rw [e1]; exact ⟨_, rfl, LeafAc.mk (h := ⟨A12, k12, c12⟩) hs r0 r1 r2 r4 J12.out hc12, idF (Row.fb (r2.lower z1)), F.toExt (by simp; omega)⟩
end Go.Proofs.YtjllhimhiekchaaGreat

namespace Go.Proofs.YtjllhimhiekchaaGreat
open Go.RowKit
section
variable {P : Program} {ops : Array Oper} {Q : Exit → Act → World → Prop} {N : Nd} {L : List (Nat × Value)} {w : World} {k n : Nat}
end
section
variable {P : Program} {Q : Exit → Act → World → Prop} {N : Nd} {L : List (Nat × Value)} {w : World} {n : Nat}
end
section
variable {P : Program} {Q : Exit → Act → World → Prop} {N : Nd} {L : List (Nat × Value)} {w : World} {c : Code}
def WLr (n : Nat) (P : Program) (Q : Exit → Act → World → Prop) (c : Code) (N : Nd) (L : List (Nat × Value)) (w : World) : Prop := ∀ a, Fr N L a → Code.rounds P c Q n a w
theorem wc_unroll (n : Nat) (h : WLr n P Q c N L w) : WC P Q (.loop c) N L w := fun a ha => wp_loop_rounds n (h a ha)
theorem wlr_succ {n : Nat} (h : ∀ K : Act → World → Prop, (∀ {N L w}, WLr n P Q c N L w → WK K N L w) → WC P (Exit.then K Q) c N L w) : WLr (n + 1) P Q c N L w := fun a ha =>
 h (Code.rounds P c Q n) (fun h => h) a ha
end
section
variable {P : Program} {w : World} {f : FuncId} {fn : Func} {c : Code} {args : Array Value} {R : Ending → World → Prop}
end
section
end
end Go.Proofs.YtjllhimhiekchaaGreat
