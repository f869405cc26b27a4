/- Copies of leaves and nodes: what node.Copy hands back, in rows that the call owns. -/
import Derived.Test.YtopimmomkapdoaaGreatNdC
import Derived.Test.YtopimmomkapdoaaGreatNdE
namespace Go.Proofs.YtopimmomkapdoaaGreat
open Go.RowKit
attribute [local irreducible] Y Ef WL WC WK WQ WM OpM WN WF OpN WJ OpJ
theorem bcloneR_any (A : Option Addr) (n c : Nat) (xs : List UInt8) (w : World) (HA : Bs w A n xs) (hn : n ≤ 35184372088832) :
    Calls Tryz.prog 48 #[.slice A n c] w fun e w' => ∃ A' c', e = .returned (.slice A' n c') ∧ Row w' w.heap.size 5 A' n c' (xs.map bv) ∧ Ext w w' := by
  refine vc_enter1 8 Tryz.func48 rfl rfl rfl rfl ?_
  intro Q hret
  refine wc_seq ?_; intro K1 hK1
  refine wc_region ?_
  refine wl_y (y_assign rfl) rfl ?_
  refine wl_nil ?_
  refine wq_then_norm (hK1 ?_)
  refine wc_seq ?_; intro K2 hK2
  refine wc_seq ?_; intro K3 hK3
  refine wc_region ?_
  refine wl_y (y_move rfl) rfl ?_
  refine wl_y (y_eql_nil rfl rfl Tryz.underlying22) rfl ?_
  refine wl_nil ?_
  refine wq_then_norm (hK3 ?_)
  refine wc_cond rfl (fun hc1 => ?_) (fun hc1 => ?_)
  · skip
    refine wc_seq ?_; intro K4 hK4
    refine wc_region ?_
    refine wl_y (y_assign rfl) rfl ?_
    refine wl_nil ?_
    refine wq_then_norm (hK4 ?_)
    refine wc_ret ?_
    refine wq_then_ret ?_
    refine hret rfl ?_
    obtain rfl : A = none := by cases A <;> first | rfl | cases hc1
    have hn0 : n = 0 := by
      rcases Nat.eq_zero_or_pos n with h | h
      · exact h
      · obtain ⟨b, off, hA, _⟩ := HA.get h
        cases hA
    subst hn0
    have hx : xs = [] := List.eq_nil_of_length_eq_zero HA.1
    subst hx
    exact ⟨none, 0, rfl, Row.empty _ _ _, Ext.refl _⟩
  · skip
    refine wc_skip ?_
    refine wq_then_norm (hK2 ?_)
    refine wc_seq ?_; intro K5 hK5
    refine wc_region ?_
    refine wl_ef (ef_lit (z := .int .u8 0) Tryz.underlying22 (by kernel_rfl) rfl rfl rfl rfl rfl) rfl ?_
    rintro _ w1 ⟨g1, rfl, B1, hg1, ex⟩
    have E1 := ex; have R1 : Row w1 w.heap.size 5 (some ⟨g1, 0, none⟩) 0 0 [] := Row.new B1 hg1 rfl (by unfold maxLen; omega)
    refine wl_y (y_move rfl) rfl ?_
    refine wl_ef (ef_app0 rfl rfl eltB R1 (HA.ext E1).2 (by rw [List.length_map, HA.1]) (by intro u hu; exact bv_one u hu) (by omega) (by omega) E1.size) rfl ?_
    rintro _ w2 ⟨A2, c2, rfl, R2, be, gr, hl⟩
    have E2 := E1.trans be
    refine wl_y (y_assign rfl) rfl ?_
    refine wl_nil ?_
    refine wq_then_norm (hK5 ?_)
    refine wc_ret ?_
    refine hret rfl ?_
    exact ⟨A2, c2, rfl, R2, E2⟩
def LeafR (base : Nat) (w : World) (cs : Array Value) (l : Leaf) : Prop := LeafC (fun h xs => Row w base 5 h.A h.n h.c (xs.map bv)) cs l
def NodeR (base : Nat) (w : World) (cs : Array Value) (n : Node) : Prop := NodeC (fun h xs => Row w base 5 h.A h.n h.c (xs.map bv)) (fun h zs => Row w base 3 h.A h.n h.c (zs.map zv) ∧ ∀ z ∈ zs, -9223372036854775808 ≤ z ∧ z ≤ 9223372036854775807) cs n
theorem Row.zs {w : World} {base n c : Nat} {A : Option Addr} {zs : List Int} (h : Row w base 3 A n c (zs.map zv)) (hz : ∀ z ∈ zs, -9223372036854775808 ≤ z ∧ z ≤ 9223372036854775807) : Zs w A n zs := ⟨by have := h.len; simpa using this, h.at, hz⟩
section
variable {w w' : World} {cs : Array Value} {l : Leaf} {n : Node} {base b : Nat}
theorem LeafR.ext (h : LeafR base w cs l) (e : Ext w w') : LeafR base w' cs l := LeafC.imp h fun _ _ r => Row.ext r e
theorem NodeR.ext (h : NodeR base w cs n) (e : Ext w w') : NodeR base w' cs n := NodeC.imp h (fun _ _ r => Row.ext r e) (fun _ _ r => ⟨Row.ext r.1 e, r.2⟩)
theorem LeafR.lower (h : LeafR base w cs l) (hb : b ≤ base) : LeafR b w cs l := LeafC.imp h fun _ _ r => Row.lower r hb
theorem NodeR.lower (h : NodeR base w cs n) (hb : b ≤ base) : NodeR b w cs n := NodeC.imp h (fun _ _ r => Row.lower r hb) (fun _ _ r => ⟨Row.lower r.1 hb, r.2⟩)
theorem NodeR.at (h : NodeR base w cs n) : NodeAt w cs n := NodeC.imp h (fun _ _ r => Row.bs r) (fun _ _ r => Row.zs r.1 r.2)
theorem LeafR.chs {S : List Nat} (h : LeafR base w cs l) (c : Chs S w w') (hS : ∀ g ∈ S, g < base := by first | (simp; done) | (simp; omega)) : LeafR base w' cs l := LeafC.imp h fun _ _ r => Row.chs r c hS
theorem NodeR.chs {S : List Nat} (h : NodeR base w cs n) (c : Chs S w w') (hS : ∀ g ∈ S, g < base) : NodeR base w' cs n := NodeC.imp h (fun _ _ r => Row.chs r c hS) (fun _ _ r => ⟨Row.chs r.1 c hS, r.2⟩)
end
/-! A leaf's five slices, taken one behind the other through pointers. -/
def Hd.v (h : Hd) : Value := .slice h.A h.n h.c
def foff (i : Nat) : Nat := if i < 3 then i else i + 1
def fptr (g : Nat) : Array Value := #[.pointer (some ⟨g, 0, none⟩), .pointer (some ⟨g, 1, none⟩), .pointer (some ⟨g, 2, none⟩), .pointer (some ⟨g, 4, none⟩), .pointer (some ⟨g, 5, none⟩)]
theorem fptr_at {g : Nat} : ∀ i, i < 5 → (fptr g)[i]? = some (.pointer (some ⟨g, foff i, none⟩))
  | 0, _ => rfl
  | 1, _ => rfl
  | 2, _ => rfl
  | 3, _ => rfl
  | 4, _ => rfl
  | i + 5, h => absurd h (by omega)
theorem foff_lt {i : Nat} (h : i < 5) : foff i < 6 := by unfold foff; split <;> omega
theorem foff_ne3 {i : Nat} : foff i ≠ 3 := by unfold foff; split <;> omega
theorem foff_inj {i j : Nat} (h : foff i = foff j) : i = j := by unfold foff at h; split at h <;> split at h <;> omega
/-- The first k slices are new, the rest as they were. -/
def Mix (w : World) (base : Nat) (C : Array Value) (s : Nat) (hd : Nat → Hd) (xs : Nat → List UInt8) (k : Nat) : Prop :=
  C.size = 6 ∧ C[3]? = some (.int .u8 (s : Int)) ∧ ∀ i, i < 5 → ∃ h : Hd, C[foff i]? = some h.v ∧ (i < k → Row w base 5 h.A h.n h.c ((xs i).map bv)) ∧ (k ≤ i → h = hd i)
section
variable {w w' : World} {base s k : Nat} {C : Array Value} {hd : Nat → Hd} {xs : Nat → List UInt8}
theorem Mix.ext (h : Mix w base C s hd xs k) (e : Ext w w') : Mix w' base C s hd xs k :=
  ⟨h.1, h.2.1, fun i hi => by obtain ⟨q, h1, h2, h3⟩ := h.2.2 i hi; exact ⟨q, h1, fun hk => Row.ext (h2 hk) e, h3⟩⟩
theorem Mix.chs {S : List Nat} (h : Mix w base C s hd xs k) (c : Chs S w w') (hS : ∀ g ∈ S, g < base) : Mix w' base C s hd xs k :=
  ⟨h.1, h.2.1, fun i hi => by obtain ⟨q, h1, h2, h3⟩ := h.2.2 i hi; exact ⟨q, h1, fun hk => Row.chs (h2 hk) c hS, h3⟩⟩
theorem Mix.step {A : Option Addr} {n c : Nat} (h : Mix w base C s hd xs k) (hk : k < 5) (R : Row w base 5 A n c ((xs k).map bv)) : Mix w base (C.setIfInBounds (foff k) (.slice A n c)) s hd xs (k + 1) := by
  obtain ⟨h1, h2, h3⟩ := h
  refine ⟨by simp [h1], ?_, fun i hi => ?_⟩
  · rw [Array.getElem?_setIfInBounds, if_neg foff_ne3]; exact h2
  · by_cases e : i = k
    · subst e
      refine ⟨⟨A, n, c⟩, ?_, fun _ => R, fun h => by omega⟩
      rw [Array.getElem?_setIfInBounds, if_pos rfl, if_pos (by rw [h1]; exact foff_lt hi)]; rfl
    · obtain ⟨q, q1, q2, q3⟩ := h3 i hi
      refine ⟨q, ?_, fun h => q2 (by omega), fun h => q3 (by omega)⟩
      rw [Array.getElem?_setIfInBounds, if_neg (fun h => e (foff_inj h).symm)]; exact q1
end
def Leaf.xs (l : Leaf) : Nat → List UInt8
  | 0 => l.box
  | 1 => l.sign
  | 2 => l.ident
  | 3 => l.parent
  | _ => l.sig
def hds (h0 h1 h2 h4 h5 : Hd) : Nat → Hd
  | 0 => h0
  | 1 => h1
  | 2 => h2
  | 3 => h4
  | _ => h5
theorem Mix.start {w : World} {base : Nat} {l : Leaf} {h0 h1 h2 h4 h5 : Hd} : Mix w base (leafV h0 h1 h2 l.src h4 h5) l.src (hds h0 h1 h2 h4 h5) l.xs 0 :=
  ⟨rfl, rfl, fun i hi => ⟨hds h0 h1 h2 h4 h5 i, (match i, hi with | 0, _ => rfl | 1, _ => rfl | 2, _ => rfl | 3, _ => rfl | 4, _ => rfl | i + 5, h => absurd h (by omega)), fun h => absurd h (Nat.not_lt_zero _), fun _ => rfl⟩⟩
theorem Mix.done {w : World} {base : Nat} {C : Array Value} {l : Leaf} {hd : Nat → Hd} (h : Mix w base C l.src hd l.xs 5) (hs : l.src < 256) : LeafR base w C l := by
  obtain ⟨h1, h2, h3⟩ := h
  obtain ⟨a0, e0, r0, _⟩ := h3 0 (by omega)
  obtain ⟨a1, e1, r1, _⟩ := h3 1 (by omega)
  obtain ⟨a2, e2, r2, _⟩ := h3 2 (by omega)
  obtain ⟨a4, e4, r4, _⟩ := h3 3 (by omega)
  obtain ⟨a5, e5, r5, _⟩ := h3 4 (by omega)
  refine ⟨a0, a1, a2, a4, a5, ?_, hs, r0 (by omega), r1 (by omega), r2 (by omega), r4 (by omega), r5 (by omega)⟩
  apply Array.ext_getElem?
  intro i
  match i with
  | 0 => exact e0
  | 1 => exact e1
  | 2 => exact e2
  | 3 => exact h2
  | 4 => exact e4
  | 5 => exact e5
  | i + 6 => rw [Array.getElem?_eq_none (by omega), Array.getElem?_eq_none (show 6 ≤ i + 6 by omega)]
theorem copyLeaf_any {cs : Array Value} {l : Leaf} (w : World) (H : LeafAt w cs l) (hf : l.Fit) :
    Calls Tryz.prog 27 #[.agg cs] w fun e w' => ∃ cs', e = .returned (.agg cs') ∧ LeafR w.heap.size w' cs' l ∧ Ext w w' := by
  obtain ⟨h0, h1, h2, h4, h5, rfl, hs, b0, b1, b2, b4, b5⟩ := H
  have hb : ∀ i, i < 5 → BsH w (hds h0 h1 h2 h4 h5 i) (l.xs i) ∧ (l.xs i).length ≤ 1000000 := fun i hi => by
    obtain ⟨f0, f1, f2, f4, f5⟩ := hf
    match i, hi with
    | 0, _ => exact ⟨b0, f0⟩
    | 1, _ => exact ⟨b1, f1⟩
    | 2, _ => exact ⟨b2, f2⟩
    | 3, _ => exact ⟨b4, f4⟩
    | 4, _ => exact ⟨b5, f5⟩
  have F := Chs.refl [] w
  refine vc_enterc1 (s := 6) 24 Tryz.func27 rfl rfl rfl Tryz.underlying24 rfl (by kernel_rfl) rfl ?_
  intro Q hret
  refine wc_seq ?_; intro K1 hK1
  refine wc_region ?_
  refine wl_ef (ef_box rfl rfl) rfl ?_
  rintro _ wB1 ⟨gB1, rfl, B1, hgB1, ex⟩
  have lB1 := B1.lt; have zB1 := ex.size
  replace F := F.ext ex
  refine wl_ef (ef_alloc (Z := #[.slice none 0 0, .slice none 0 0, .slice none 0 0, .int .u8 0, .slice none 0 0, .slice none 0 0]) (by kernel_rfl)) rfl ?_
  rintro _ wB2 ⟨gB2, rfl, B2, hgB2, ex⟩
  have lB2 := B2.lt; have zB2 := ex.size
  replace F := F.grow ex hgB2
  replace B1 := B1.grow ex hgB2
  refine wl_nil ?_
  refine wq_then_norm (hK1 ?_)
  refine wc_seq ?_; intro K2 hK2
  refine wc_seq ?_; intro K3 hK3
  refine wc_region ?_
  refine wl_y (y_fieldAddr (o := 0) (s := 1) (off := 0) (o' := 0) rfl Tryz.underlying24 rfl (by kernel_rfl) rfl rfl) rfl ?_
  refine wl_y (y_fieldAddr (o := 1) (s := 1) (off := 0) (o' := 1) rfl Tryz.underlying24 rfl (by kernel_rfl) rfl rfl) rfl ?_
  refine wl_y (y_fieldAddr (o := 2) (s := 1) (off := 0) (o' := 2) rfl Tryz.underlying24 rfl (by kernel_rfl) rfl rfl) rfl ?_
  refine wl_y (y_fieldAddr (o := 4) (s := 1) (off := 0) (o' := 4) rfl Tryz.underlying24 rfl (by kernel_rfl) rfl rfl) rfl ?_
  refine wl_y (y_fieldAddr (o := 5) (s := 1) (off := 0) (o' := 5) rfl Tryz.underlying24 rfl (by kernel_rfl) rfl rfl) rfl ?_
  refine wl_ef (ef_lit (z := .pointer none) Tryz.underlying89 (by kernel_rfl) rfl rfl rfl rfl rfl) rfl ?_
  rintro _ w1 ⟨g10, rfl, B10, hg10, ex⟩
  replace F := F.ext ex
  replace B1 := B1.ext ex
  replace B2 := B2.ext ex
  replace B10 : Blk w1 g10 88 (fptr gB1) := B10
  refine wl_y (y_len_slice rfl Tryz.underlying89) rfl ?_
  refine wl_y (y_move rfl) rfl ?_
  refine wl_nil ?_
  refine wq_then_norm (hK3 ?_)
  refine wc_block ?_
  have F0 := F; have B20 := B2; have z1 := F.size; have m1 := B1.lt; have m2 := B2.lt; have m10 := B10.lt
  have G := Chs.refl [gB1] w1
  have M0 : Mix w1 w1.heap.size (leafV h0 h1 h2 l.src h4 h5) l.src (hds h0 h1 h2 h4 h5) l.xs 0 := Mix.start
  refine wc_loop (fun n' L wr => ∃ (k : Nat) (C : Array Value), L = [(1, .pointer (some ⟨gB1, 0, none⟩)), (2, .pointer (some ⟨gB2, 0, none⟩)), (10, .slice (some ⟨g10, 0, none⟩) 5 5), (11, .int .i64 5), (12, .int .i64 (k : Int))] ∧ n' = 5 - k ∧ (k ≤ 5 ∧ Chs [gB1] w1 wr ∧ Blk wr gB1 24 C ∧ Blk wr g10 88 (fptr gB1) ∧ Mix wr w1.heap.size C l.src (hds h0 h1 h2 h4 h5) l.xs k)) _ _ ⟨0, leafV h0 h1 h2 l.src h4 h5, rfl, rfl, by omega, G, B1, B10, M0⟩ ⟨rfl, rfl, rfl, (by first | rfl | exact congrArg some (int_val (by omega))), (by first | rfl | exact congrArg some (int_val (by omega))), trivial⟩ ?_
  rintro KL1 n' L wr ⟨k, C, rfl, rfl, hk, G, B1, B10, M⟩ hL1
  refine wc_seq ?_; intro K4 hK4
  refine wc_region ?_
  refine wl_y (y_lss rfl rfl) rfl ?_
  refine wl_nil ?_
  refine wq_then_norm (hK4 ?_)
  refine wc_seq ?_; intro K5 hK5
  refine wc_dec rfl (fun hc1 => ?_) (fun hc1 => ?_)
  · skip
    refine wc_skip ?_
    refine wq_then_norm (hK5 ?_)
    refine wc_seq ?_; intro K6 hK6
    refine wc_block ?_
    refine wc_seq ?_; intro K7 hK7
    have hlt : k < 5 := by omega
    obtain ⟨⟨A, n, c⟩, hC, _, hq⟩ := M.2.2 k hlt
    replace hC : C[foff k]? = some (.slice A n c) := hC
    obtain ⟨hbs, hfl⟩ := hb k hlt
    rw [← hq (Nat.le_refl k)] at hbs
    replace hbs : Bs w A n (l.xs k) := hbs
    have hbl := hbs.1
    have EX : Ext w wr := ((F0.mono (S' := [gB2, gB1]) (by simp)).chs G).toExt (by simp; omega)
    have hz := G.size
    refine wc_region ?_
    refine wl_y (y_ixs1 rfl rfl Tryz.underlying89 (by kernel_rfl) rfl (by omega)) rfl ?_
    refine wl_y (y_load1 rfl Tryz.underlying88 rfl (show _ = some (.pointer (some ⟨gB1, foff k, none⟩)) from by rw [Nat.zero_add]; exact B10.get (fptr_at k hlt))) rfl ?_
    refine wl_y (y_assign rfl) rfl ?_
    refine wl_nil ?_
    refine wq_then_norm (hK7 ?_)
    refine wc_region ?_
    refine wl_y (y_move rfl) rfl ?_
    refine wl_y (y_move rfl) rfl ?_
    refine wl_y (y_nilp rfl) rfl ?_
    refine wl_y (y_load1 rfl Tryz.underlying22 rfl (B1.get hC)) rfl ?_
    refine wl_call Tryz.func48 rfl rfl rfl (bcloneR_any A n c _ _ (hbs.ext EX) (by omega)) rfl ?_
    rintro e w4 ⟨A4, c4, rfl, R4, ex⟩
    refine ⟨_, rfl, ?_⟩
    replace G := G.ext ex
    replace B1 := B1.ext ex
    replace B10 := B10.ext ex
    replace M := M.ext ex
    replace R4 := R4.lower hz
    refine wl_y (y_nilp rfl) rfl ?_
    refine wl_ef (ef_storeB rfl rfl rfl (by kernel_rfl) B1 (by rw [M.1]; exact foff_lt hlt)) rfl ?_
    rintro _ w5 ⟨rfl, D1, cg⟩
    replace M := (M.step hlt R4).chs (Chs.one cg) (by simp; omega); replace G := G.chs (Chs.one cg); replace B10 := B10.chs (Chs.one cg) (by simp; omega)
    refine wl_nil ?_
    refine wq_blk_norm ?_
    refine wq_then_norm (hK6 ?_)
    refine wc_region ?_
    refine wl_y (y_add rfl rfl (i64_ok (by omega) (by omega))) rfl ?_
    refine wl_y (y_move rfl) rfl ?_
    refine wl_nil ?_
    refine wq_then_norm ?_
    refine hL1 _ _ ⟨k + 1, C.setIfInBounds (foff k) (.slice A4 n c4), rfl, rfl, by omega, G, D1, B10, M⟩ (by omega) ⟨rfl, rfl, rfl, (by first | rfl | exact congrArg some (int_val (by omega))), (by first | rfl | exact congrArg some (int_val (by omega))), trivial⟩
  · skip
    refine wc_exit ?_
    refine wq_then_exit ?_
    refine wq_then_exit ?_
    refine wq_blk_hit ?_
    refine wq_then_norm (hK2 ?_)
    refine wc_seq ?_; intro K8 hK8
    obtain rfl : k = 5 := by omega
    have B2 := B20.chs G (by simp; omega)
    have LR := M.done hs
    have LR2 := LR
    obtain ⟨i0, i1, i2, i4, i5, rfl, _⟩ := LR2
    refine wc_region ?_
    refine wl_y (y_loadx (o := 0) (s := 6) rfl Tryz.underlying24 rfl (by kernel_rfl) B1 rfl) rfl ?_
    refine wl_ef (ef_storeP (o := 0) rfl rfl (by kernel_rfl) B2 (Nat.le_of_ble_eq_true rfl) (all_ones rfl)) rfl ?_
    rintro _ w6 ⟨rfl, D2, cg⟩
    have F6 := ((F0.mono (S' := [gB2, gB1]) (by simp)).chs G).chs (Chs.one cg)
    refine wl_nil ?_
    refine wq_then_norm (hK8 ?_)
    refine wc_ret ?_
    refine hret rfl (D2.congr (cs' := leafV i0 i1 i2 l.src i4 i5) rfl) rfl ?_
    exact ⟨_, rfl, (LR.chs (Chs.one cg) (by simp; omega)).lower (by omega), F6.toExt (by simp; omega)⟩
theorem NodeR.mk {w : World} {base k : Nat} {l : Leaf} {p : Par} {i0 i1 i2 i4 i5 p0 p1 p2 : Hd} (hk : k < 256) (h : LeafR base w (leafV i0 i1 i2 l.src i4 i5) l) (r0 : Row w base 5 p0.A p0.n p0.c (p.box.map bv)) (r1 : Row w base 5 p1.A p1.n p1.c (p.hash.map bv)) (r2 : Row w base 3 p2.A p2.n p2.c (p.late.map zv)) (hz : ∀ z ∈ p.late, -9223372036854775808 ≤ z ∧ z ≤ 9223372036854775807) : NodeR base w (nodeV k i0 i1 i2 l.src i4 i5 p0 p1 p2) ⟨k, l, p⟩ := by
  obtain ⟨j0, j1, j2, j4, j5, e, hs, q0, q1, q2, q4, q5⟩ := h
  have e0 : j0 = i0 ∧ j1 = i1 ∧ j2 = i2 ∧ j4 = i4 ∧ j5 = i5 := by
    unfold leafV at e
    simp only [Array.mk.injEq, List.cons.injEq, Value.slice.injEq, and_true, true_and] at e
    obtain ⟨a, b, c, d, f⟩ := e
    refine ⟨?_, ?_, ?_, ?_, ?_⟩
    · cases i0; cases j0; simp_all
    · cases i1; cases j1; simp_all
    · cases i2; cases j2; simp_all
    · cases i4; cases j4; simp_all
    · cases i5; cases j5; simp_all
  obtain ⟨rfl, rfl, rfl, rfl, rfl⟩ := e0
  exact ⟨_, _, _, _, _, _, _, _, rfl, hk, hs, q0, q1, q2, q4, q5, r0, r1, r2, hz⟩
end Go.Proofs.YtopimmomkapdoaaGreat
