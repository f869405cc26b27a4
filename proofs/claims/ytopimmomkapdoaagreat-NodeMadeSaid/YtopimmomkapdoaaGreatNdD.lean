/- The bytes of leaves, parents and nodes: what node and the reference hand back. -/
import Derived.Test.YtopimmomkapdoaaGreatNdC
namespace Go.Proofs.YtopimmomkapdoaaGreat
open Go.RowKit
attribute [local irreducible] Y Ef WL WC WK WQ WM OpM WN WF OpN
theorem pv_any {A B : Option Addr} {n c m d : Nat} {xs ys : List UInt8} {w : World} (HA : Bs w A n xs) (HB : Bs w B m ys) (hn : n ≤ 1000000000) (hm : m ≤ 1000000000) :
    Calls Tryz.prog 34 #[.slice A n c, .slice B m d] w fun e w' => ∃ A' k c', e = .returned (.slice A' k c') ∧ Row w' w.heap.size 5 A' k c' ((xs ++ Wire.vec ys).map bv) ∧ k ≤ n + m + 4 ∧ Ext w w' :=
  (putVec_any A B n c m d xs ys w HA (by omega) HB (by omega)).mono fun _ _ ⟨A', k, c', h1, h2, h3, h4⟩ => ⟨A', k, c', h1, h2, by have := Wire.lsz_le m; omega, h4⟩
theorem rv_any {B : Option Addr} {m d : Nat} {ys : List UInt8} {w : World} (HB : Bs w B m ys) (hm : m ≤ 1000000000) :
    Calls Tryz.prog 25 #[.slice B m d] w fun e w' => ∃ A' k c', e = .returned (.slice A' k c') ∧ Row w' w.heap.size 5 A' k c' ((Wire.vec ys).map bv) ∧ k ≤ m + 4 ∧ Ext w w' :=
  (refVec_any B m d ys w HB (by omega)).mono fun _ _ ⟨A', k, c', h1, h2, h3, h4⟩ => ⟨A', k, c', h1, h2, by have := Wire.lsz_le m; omega, h4⟩
theorem jn16_any {A B : Option Addr} {n c m d : Nat} {xs ys : List UInt8} {w : World} (HA : Bs w A n xs) (HB : Bs w B m ys) (hn : n ≤ 1000000000) (hm : m ≤ 1000000000) :
    Calls Tryz.prog 24 #[.slice A n c, .slice B m d] w fun e w' => ∃ A' c', e = .returned (.slice A' (n + m) c') ∧ Row w' w.heap.size 5 A' (n + m) c' ((xs ++ ys).map bv) ∧ Ext w w' := by
  refine vc_enter1 10 Tryz.func24 rfl rfl rfl rfl ?_
  intro Q hret
  refine wc_seq ?_; intro K1 hK1
  refine wc_region ?_
  refine wl_y (y_assign rfl) rfl ?_
  refine wl_nil ?_
  refine wq_then_norm (hK1 ?_)
  refine wc_seq ?_; intro K2 hK2
  refine wc_region ?_
  refine wl_ef (ef_lit (z := .int .u8 0) Tryz.underlying22 (by kernel_rfl) rfl rfl rfl rfl rfl) rfl ?_
  rintro _ w1 ⟨g1, rfl, B1, hg1, ex⟩
  have E1 := ex; have R1 : Row w1 w.heap.size 5 (some ⟨g1, 0, none⟩) 0 0 [] := Row.new B1 hg1 rfl (by unfold maxLen; omega)
  refine wl_y (y_move rfl) rfl ?_
  refine wl_ef (ef_app0 rfl rfl eltB R1 (HA.ext E1).2 (by rw [List.length_map, HA.1]) (by intro u hu; exact bv_one u hu) (by omega) (by omega) E1.size) rfl ?_
  rintro _ w2 ⟨A2, c2, rfl, R2, be, gr, hl⟩
  have E2 := E1.trans be
  refine wl_y (y_move rfl) rfl ?_
  refine wl_ef (ef_app rfl rfl eltB R2 (HB.ext E2).2 (by rw [List.length_map, HB.1]) (by intro u hu; exact bv_one u hu) (by omega) (by omega) E2.size) rfl ?_
  rintro _ w3 ⟨A3, c3, rfl, R3, be, gr, hl⟩
  have E3 := E2.trans be
  refine wl_y (y_assign rfl) rfl ?_
  refine wl_nil ?_
  refine wq_then_norm (hK2 ?_)
  refine wc_ret ?_
  refine hret rfl ?_
  exact ⟨A3, c3, rfl, R3.cat, E3⟩
/-- A leaf's bytes but for the signature; with it; a parent's; a node's. -/
def leafU (l : Leaf) : List UInt8 := Wire.vec l.box ++ Wire.vec l.sign ++ Wire.vec l.ident ++ [UInt8.ofNat l.src] ++ (if l.src = 3 then Wire.vec l.parent else [])
def leafB (l : Leaf) : List UInt8 := leafU l ++ Wire.vec l.sig
def lateB (zs : List Int) : List UInt8 := (zs.map fun z => Wire.be 4 z.toNat).flatten
def parB (p : Par) : List UInt8 := Wire.vec p.box ++ Wire.vec p.hash ++ Wire.vec (lateB p.late)
def nodeB (n : Node) : List UInt8 := UInt8.ofNat n.kind :: (if n.kind = 1 then leafB n.leaf else if n.kind = 2 then parB n.par else [])
theorem vec_le (v : List UInt8) : (Wire.vec v).length ≤ v.length + 4 := by have := Wire.lsz_le v.length; rw [Wire.vec_length]; omega
theorem lateB_length : ∀ zs : List Int, (lateB zs).length = 4 * zs.length
  | [] => rfl
  | z :: zs => by
    have := lateB_length zs
    unfold lateB at this ⊢
    rw [List.map_cons, List.flatten_cons, List.length_append, this, Wire.be_length, List.length_cons]; omega
theorem lateB_snoc {zs : List Int} {k : Nat} (h : k < zs.length) : lateB (zs.take (k + 1)) = lateB (zs.take k) ++ Wire.be 4 (zs.getD k 0).toNat := by
  unfold lateB
  rw [List.take_succ_eq_append_getElem h, List.map_append, List.flatten_append]
  congr 1
  simp [h]
theorem leafU_le {l : Leaf} (hf : l.Fit) : (leafU l).length ≤ 4000017 := by
  obtain ⟨f0, f1, f2, f4, f5⟩ := hf
  have h0 := vec_le l.box; have h1 := vec_le l.sign; have h2 := vec_le l.ident; have h4 := vec_le l.parent
  unfold leafU
  simp only [List.length_append, List.length_singleton]
  split
  · omega
  · simp only [List.length_nil]; omega
theorem src_byte {s : Nat} (h : s < 256) : (Value.int .u8 (s : Int)) = bv (UInt8.ofNat s) := by
  unfold bv; congr 1; rw [UInt8.toNat_ofNat']; omega
theorem unsigned_any {A : Option Addr} {n c : Nat} {xs : List UInt8} {cs : Array Value} {l : Leaf} (w : World) (HA : Bs w A n xs) (hn : n ≤ 1000) (H : LeafAt w cs l) (hf : l.Fit) :
    Calls Tryz.prog 35 #[.slice A n c, .agg cs] w fun e w' => ∃ A' k c', e = .returned (.slice A' k c') ∧ Row w' w.heap.size 5 A' k c' ((xs ++ leafU l).map bv) ∧ Ext w w' := by
  obtain ⟨h0, h1, h2, h4, h5, rfl, hs, b0, b1, b2, b4, b5⟩ := H
  have l0 := b0.1; have l1 := b1.1; have l2 := b2.1; have l4 := b4.1; have l5 := b5.1
  have hU := leafU_le hf
  obtain ⟨f0, f1, f2, f4, f5⟩ := hf
  have hxl := HA.1
  have E := Ext.refl w
  obtain ⟨ys, hys⟩ : ∃ ys, ys = [l.box, l.sign, l.ident] := ⟨_, rfl⟩
  obtain ⟨fl, hfl⟩ : ∃ fl : Nat → List UInt8, fl = fun k => ((ys.take k).map Wire.vec).flatten := ⟨_, rfl⟩
  have hfs : ∀ k, k < 3 → fl (k + 1) = fl k ++ Wire.vec (ys.getD k []) := fun k hk => by
    rw [hfl, hys]
    match k, hk with
    | 0, _ => simp
    | 1, _ => simp
    | 2, _ => simp
  have hfle : ∀ k, k < 3 → (fl k).length ≤ 2000008 := fun k hk => by
    have h0 := vec_le l.box; have h1 := vec_le l.sign
    rw [hfl, hys]
    match k, hk with
    | 0, _ => simp
    | 1, _ => simp; omega
    | 2, _ => simp; omega
  have hyl : ∀ k, k < 3 → (ys.getD k []).length ≤ 1000000 := fun k hk => by
    rw [hys]
    match k, hk with
    | 0, _ => exact f0
    | 1, _ => exact f1
    | 2, _ => exact f2
  refine vc_enter1 36 Tryz.func35 rfl rfl rfl rfl ?_
  intro Q hret
  refine wc_seq ?_; intro K1 hK1
  refine wc_region ?_
  refine wl_ef (ef_box rfl rfl) rfl ?_
  rintro _ wB3 ⟨gB3, rfl, B3, hgB3, ex⟩
  have lB3 := B3.lt; have zB3 := ex.size
  replace E := E.ext ex
  refine wl_y (y_assign rfl) rfl ?_
  refine wl_nil ?_
  refine wq_then_norm (hK1 ?_)
  refine wc_seq ?_; intro K2 hK2
  refine wc_seq ?_; intro K3 hK3
  refine wc_region ?_
  refine wl_y (y_fieldAddr (o := 0) (s := 1) (off := 0) (o' := 0) rfl Tryz.underlying24 rfl (by kernel_rfl) rfl rfl) rfl ?_
  refine wl_y (y_load1 rfl Tryz.underlying22 rfl (B3.get (i := 0) rfl)) rfl ?_
  refine wl_y (y_fieldAddr (o := 1) (s := 1) (off := 0) (o' := 1) rfl Tryz.underlying24 rfl (by kernel_rfl) rfl rfl) rfl ?_
  refine wl_y (y_load1 rfl Tryz.underlying22 rfl (B3.get (i := 1) rfl)) rfl ?_
  refine wl_y (y_fieldAddr (o := 2) (s := 1) (off := 0) (o' := 2) rfl Tryz.underlying24 rfl (by kernel_rfl) rfl rfl) rfl ?_
  refine wl_y (y_load1 rfl Tryz.underlying22 rfl (B3.get (i := 2) rfl)) rfl ?_
  have E0 := E; have B3lt := B3.lt
  refine wl_ef (ef_lit (z := .slice none 0 0) Tryz.underlying103 (by kernel_rfl) rfl rfl rfl rfl rfl) rfl ?_
  rintro _ w2 ⟨g13, rfl, B13, hg13, ex⟩
  replace E := E.ext ex
  replace B3 := B3.ext ex
  have F : Ext wB3 w2 := ex; have S13 : Bss w2 (some ⟨g13, 0, none⟩) 3 ys := (by rw [hys]; exact bss_three B13 (Bs.ext b0 E) (Bs.ext b1 E) (Bs.ext b2 E))
  refine wl_y (y_len_slice rfl Tryz.underlying103) rfl ?_
  refine wl_y (y_move rfl) rfl ?_
  refine wl_nil ?_
  refine wq_then_norm (hK3 ?_)
  refine wc_block ?_
  refine wc_loop (fun n' L wr => ∃ (k m e : Nat) (D : Option Addr), L = [(0, .slice D m e), (3, .pointer (some ⟨gB3, 0, none⟩)), (13, .slice (some ⟨g13, 0, none⟩) 3 3), (14, .int .i64 3), (15, .int .i64 (k : Int))] ∧ n' = 3 - k ∧ (k ≤ 3 ∧ Bs wr D m (xs ++ fl k) ∧ (k ≠ 0 → Row wr wB3.heap.size 5 D m e ((xs ++ fl k).map bv)) ∧ Ext wB3 wr ∧ Blk wr gB3 24 (leafV h0 h1 h2 l.src h4 h5) ∧ Bss wr (some ⟨g13, 0, none⟩) 3 ys)) _ _ ⟨0, n, c, A, rfl, rfl, by omega, by rw [hfl]; simpa using HA.ext E, fun h => absurd rfl h, F, B3, S13⟩ ⟨rfl, rfl, rfl, (by first | rfl | exact congrArg some (int_val (by omega))), (by first | rfl | exact congrArg some (int_val (by omega))), trivial⟩ ?_
  rintro KL1 n' L wr ⟨k, m, e, D, rfl, rfl, hk, HD, hrow, F, B3, S13⟩ hL1
  refine wc_seq ?_; intro K4 hK4
  refine wc_region ?_
  refine wl_y (y_lss rfl rfl) rfl ?_
  refine wl_nil ?_
  refine wq_then_norm (hK4 ?_)
  refine wc_seq ?_; intro K5 hK5
  refine wc_dec rfl (fun hc1 => ?_) (fun hc1 => ?_)
  · skip
    refine wc_skip ?_
    refine wq_then_norm (hK5 ?_)
    refine wc_seq ?_; intro K6 hK6
    refine wc_block ?_
    refine wc_seq ?_; intro K7 hK7
    have hlt : k < 3 := by omega
    obtain ⟨b, off, C, q, f, zs, e1, hzs, hcell, hC⟩ := S13.get hlt
    injection e1 with e1
    injection e1 with e11 e12 _
    subst e11; subst e12
    have hm1 := HD.1
    have hq := hC.1
    have hzl := hyl k hlt
    rw [← hzs.out] at hzl
    have hfk := hfle k hlt
    rw [List.length_append] at hm1
    have hz4 := F.size
    refine wc_region ?_
    refine wl_y (y_ixs1 rfl rfl Tryz.underlying103 (by kernel_rfl) rfl (by omega)) rfl ?_
    refine wl_y (y_load1 rfl Tryz.underlying22 rfl hcell) rfl ?_
    refine wl_y (y_assign rfl) rfl ?_
    refine wl_nil ?_
    refine wq_then_norm (hK7 ?_)
    refine wc_region ?_
    refine wl_y (y_move rfl) rfl ?_
    refine wl_y (y_move rfl) rfl ?_
    refine wl_call Tryz.func34 rfl rfl rfl (pv_any HD hC (by omega) (by omega)) rfl ?_
    rintro e w4 ⟨A4, k4, c4, rfl, R4, hk4, ex⟩
    refine ⟨_, rfl, ?_⟩
    replace F := F.ext ex
    replace B3 := B3.ext ex
    replace S13 := S13.ext ex
    rw [hzs.out, List.append_assoc, ← hfs k hlt] at R4; replace R4 := R4.lower hz4
    refine wl_y (y_assign rfl) rfl ?_
    refine wl_nil ?_
    refine wq_blk_norm ?_
    refine wq_then_norm (hK6 ?_)
    refine wc_region ?_
    refine wl_y (y_add rfl rfl (i64_ok (by omega) (by omega))) rfl ?_
    refine wl_y (y_move rfl) rfl ?_
    refine wl_nil ?_
    refine wq_then_norm ?_
    refine hL1 _ _ ⟨k + 1, k4, c4, A4, rfl, rfl, by omega, R4.bs, fun _ => R4, F, B3, S13⟩ (by omega) ⟨rfl, rfl, rfl, (by first | rfl | exact congrArg some (int_val (by omega))), (by first | rfl | exact congrArg some (int_val (by omega))), trivial⟩
  · skip
    refine wc_exit ?_
    refine wq_then_exit ?_
    refine wq_then_exit ?_
    refine wq_blk_hit ?_
    refine wq_then_norm (hK2 ?_)
    refine wc_seq ?_; intro K8 hK8
    obtain rfl : k = 3 := by omega
    have R := hrow (by omega)
    have hf3 : fl 3 = Wire.vec l.box ++ Wire.vec l.sign ++ Wire.vec l.ident := by rw [hfl, hys]; simp
    rw [hf3] at R
    have hRl := R.len
    rw [List.length_map, List.length_append] at hRl
    have hU3 : (Wire.vec l.box ++ Wire.vec l.sign ++ Wire.vec l.ident).length ≤ 4000017 := by unfold leafU at hU; simp only [List.length_append] at hU ⊢; omega
    refine wc_region ?_
    refine wl_y (y_move rfl) rfl ?_
    refine wl_y (y_fieldAddr (o := 3) (s := 1) (off := 0) (o' := 3) rfl Tryz.underlying24 rfl (by kernel_rfl) rfl rfl) rfl ?_
    refine wl_y (Y.as (y_load1 rfl Tryz.underlying5 rfl (B3.get (i := 3) rfl)) (src_byte hs)) rfl ?_
    refine wl_ef (ef_lit (z := .int .u8 0) Tryz.underlying22 (by kernel_rfl) rfl rfl rfl rfl rfl) rfl ?_
    rintro _ w5 ⟨g5, rfl, B5, hg5, ex⟩
    replace R := R.ext ex; have hz5 := F.size
    refine wl_ef (ef_app rfl rfl eltB R (At.blk (vs := [UInt8.ofNat l.src].map bv) (B5.congr (by rfl))) rfl (by intro u hu; exact bv_one u hu) (by omega) (by omega) (Nat.le_trans F.size ex.size)) rfl ?_
    rintro _ w6 ⟨A6, c6, rfl, R6, be, gr, hl⟩
    replace F := (F.ext ex).trans be; replace R6 := R6.cat; replace B3 := (B3.ext ex).below be B3lt; have E := E0.tr F
    refine wl_y (y_assign rfl) rfl ?_
    refine wl_nil ?_
    refine wq_then_norm (hK8 ?_)
    refine wc_seq ?_; intro K9 hK9
    refine wc_seq ?_; intro K10 hK10
    refine wc_region ?_
    refine wl_y (y_fieldAddr (o := 3) (s := 1) (off := 0) (o' := 3) rfl Tryz.underlying24 rfl (by kernel_rfl) rfl rfl) rfl ?_
    refine wl_y (y_load1 rfl Tryz.underlying5 rfl (B3.get (i := 3) rfl)) rfl ?_
    refine wl_y (y_eql rfl rfl) rfl ?_
    refine wl_nil ?_
    refine wq_then_norm (hK10 ?_)
    refine wc_dec rfl (fun hc2 => ?_) (fun hc2 => ?_)
    · skip
      refine wc_region ?_
      refine wl_y (y_move rfl) rfl ?_
      refine wl_y (y_fieldAddr (o := 4) (s := 1) (off := 0) (o' := 4) rfl Tryz.underlying24 rfl (by kernel_rfl) rfl rfl) rfl ?_
      refine wl_y (y_load1 rfl Tryz.underlying22 rfl (B3.get (i := 4) rfl)) rfl ?_
      have hz8 := E.size
      refine wl_call Tryz.func34 rfl rfl rfl (pv_any R6.bs (Bs.ext b4 E) (by omega) (by omega)) rfl ?_
      rintro e w7 ⟨A7, k7, c7, rfl, R7, hk7, ex⟩
      refine ⟨_, rfl, ?_⟩
      replace E := E.ext ex
      refine wl_y (y_assign rfl) rfl ?_
      refine wl_nil ?_
      refine wq_then_norm (hK9 ?_)
      refine wc_seq ?_; intro K11 hK11
      refine wc_region ?_
      refine wl_y (y_move rfl) rfl ?_
      refine wl_y (y_assign rfl) rfl ?_
      refine wl_nil ?_
      refine wq_then_norm (hK11 ?_)
      refine wc_ret ?_
      refine hret rfl ?_
      refine ⟨A7, k7, c7, rfl, (R7.lower hz8).congr rfl ?_, E⟩
      unfold leafU
      rw [if_pos (by omega)]
      simp only [List.append_assoc]
    · skip
      refine wc_skip ?_
      refine wq_then_norm (hK9 ?_)
      refine wc_seq ?_; intro K12 hK12
      refine wc_region ?_
      refine wl_y (y_move rfl) rfl ?_
      refine wl_y (y_assign rfl) rfl ?_
      refine wl_nil ?_
      refine wq_then_norm (hK12 ?_)
      refine wc_ret ?_
      refine hret rfl ?_
      refine ⟨A6, _, c6, rfl, (R6.lower E0.size).congr rfl ?_, E⟩
      unfold leafU
      rw [if_neg (by omega)]
      simp only [List.append_assoc, List.append_nil]
def nodeE (n : Node) : List UInt8 × Nat := if okNode n then (nodeB n, 0) else ([], 3)
theorem rising_bd : ∀ {last : Int} {zs : List Int}, -1 ≤ last → rising last zs → ∀ k, k < zs.length → 0 ≤ zs.getD k 0 ∧ zs.getD k 0 < 65536
  | last, [], _, _, k, hk => by simp at hk
  | last, z :: zs, hl, h, 0, _ => ⟨by have := h.1; show 0 ≤ z; omega, h.2.1⟩
  | last, z :: zs, hl, h, k + 1, hk => rising_bd (last := z) (by have := h.1; omega) h.2.2 k (by simpa using hk)
theorem parentBytes_any {A : Option Addr} {n c : Nat} {xs : List UInt8} {cs : Array Value} {p : Par} (w : World) (HA : Bs w A n xs) (hn : n ≤ 1000) (H : ParAt w cs p) (hf : p.Fit) (hr : rising (-1) p.late) :
    Calls Tryz.prog 36 #[.slice A n c, .agg cs] w fun e w' => ∃ A' k c', e = .returned (.slice A' k c') ∧ Row w' w.heap.size 5 A' k c' ((xs ++ parB p).map bv) ∧ Ext w w' := by
  obtain ⟨h0, h1, ⟨A2, n2, c2⟩, rfl, b0, b1, b2⟩ := H
  replace b2 : Zs w A2 n2 p.late := b2
  have l0 := b0.1; have l1 := b1.1; have l2 := b2.1
  obtain ⟨f0, f1, f2⟩ := hf
  have E := Ext.refl w
  have hll := lateB_length p.late
  have hn' : (⟨A2, n2, c2⟩ : Hd).n = n2 := rfl
  refine vc_enter1 29 Tryz.func36 rfl rfl rfl rfl ?_
  intro Q hret
  refine wc_seq ?_; intro K1 hK1
  refine wc_region ?_
  refine wl_ef (ef_box rfl rfl) rfl ?_
  rintro _ wB3 ⟨gB3, rfl, B3, hgB3, ex⟩
  have lB3 := B3.lt; have zB3 := ex.size
  replace E := E.ext ex
  refine wl_y (y_assign rfl) rfl ?_
  refine wl_nil ?_
  refine wq_then_norm (hK1 ?_)
  refine wc_seq ?_; intro K2 hK2
  refine wc_region ?_
  refine wl_y (y_assign rfl) rfl ?_
  refine wl_nil ?_
  refine wq_then_norm (hK2 ?_)
  refine wc_seq ?_; intro K3 hK3
  refine wc_seq ?_; intro K4 hK4
  refine wc_region ?_
  refine wl_y (y_fieldAddr (o := 2) (s := 1) (off := 0) (o' := 2) rfl Tryz.underlying29 rfl (by kernel_rfl) rfl rfl) rfl ?_
  refine wl_y (y_load1 rfl Tryz.underlying27 rfl (B3.get (i := 2) rfl)) rfl ?_
  refine wl_y (y_len_slice rfl Tryz.underlying27) rfl ?_
  refine wl_y (y_move rfl) rfl ?_
  refine wl_nil ?_
  refine wq_then_norm (hK4 ?_)
  refine wc_block ?_
  refine wc_loop (fun n' L wr => ∃ (k e : Nat) (D : Option Addr), L = [(0, .slice A n c), (3, .pointer (some ⟨gB3, 0, none⟩)), (5, .slice D (4 * k) e), (9, .slice A2 n2 c2), (10, .int .i64 (n2 : Int)), (11, .int .i64 (k : Int))] ∧ n' = n2 - k ∧ (k ≤ n2 ∧ Bs wr D (4 * k) (lateB (p.late.take k)) ∧ Ext w wr ∧ Blk wr gB3 29 (parV h0 h1 ⟨A2, n2, c2⟩))) _ _ ⟨0, 0, none, rfl, rfl, by omega, Bs.nil _ _, E, B3⟩ ⟨rfl, rfl, rfl, rfl, (by first | rfl | exact congrArg some (int_val (by omega))), (by first | rfl | exact congrArg some (int_val (by omega))), trivial⟩ ?_
  rintro KL1 n' L wr ⟨k, e, D, rfl, rfl, hk, HD, E, B3⟩ hL1
  refine wc_seq ?_; intro K5 hK5
  refine wc_region ?_
  refine wl_y (y_lss rfl rfl) rfl ?_
  refine wl_nil ?_
  refine wq_then_norm (hK5 ?_)
  refine wc_seq ?_; intro K6 hK6
  refine wc_dec rfl (fun hc1 => ?_) (fun hc1 => ?_)
  · skip
    refine wc_skip ?_
    refine wq_then_norm (hK6 ?_)
    refine wc_seq ?_; intro K7 hK7
    refine wc_block ?_
    refine wc_seq ?_; intro K8 hK8
    have hlt : k < n2 := by omega
    obtain ⟨b, off, rfl, _, hc, hb1, hb2⟩ := (b2.ext E).get hlt
    have hbd := rising_bd (by omega) hr k (by omega)
    obtain ⟨z, hz⟩ := Int.eq_ofNat_of_zero_le hbd.1
    rw [hz] at hc
    refine wc_region ?_
    refine wl_y (y_ixs1 rfl rfl Tryz.underlying27 (by kernel_rfl) rfl (by omega)) rfl ?_
    refine wl_y (y_load1 rfl Tryz.underlying3 rfl hc) rfl ?_
    refine wl_y (y_assign rfl) rfl ?_
    refine wl_nil ?_
    refine wq_then_norm (hK8 ?_)
    refine wc_region ?_
    refine wl_y (y_move rfl) rfl ?_
    refine wl_y (y_move rfl) rfl ?_
    refine wl_y (y_conv rfl Tryz.underlying3 Tryz.underlying58 (IntWalk.u64_in _ ⟨by omega, by omega⟩)) rfl ?_
    refine wl_call Tryz.func40 rfl rfl rfl (putNum_any D (4 * k) e 4 z _ _ HD (by omega) (by omega) (by omega)) rfl ?_
    rintro e w4 ⟨A4, c4, rfl, R4, ex⟩
    refine ⟨_, rfl, ?_⟩
    replace E := E.ext ex
    replace B3 := B3.ext ex
    have H4 := R4.bs
    refine wl_y (y_assign rfl) rfl ?_
    refine wl_nil ?_
    refine wq_blk_norm ?_
    refine wq_then_norm (hK7 ?_)
    refine wc_region ?_
    refine wl_y (y_add rfl rfl (i64_ok (by omega) (by omega))) rfl ?_
    refine wl_y (y_move rfl) rfl ?_
    refine wl_nil ?_
    refine wq_then_norm ?_
    refine hL1 _ _ ⟨k + 1, c4, A4, rfl, rfl, by omega, by rw [lateB_snoc (by omega), hz]; exact H4, E, B3⟩ (by omega) ⟨rfl, rfl, rfl, rfl, (by first | rfl | exact congrArg some (int_val (by omega))), (by first | rfl | exact congrArg some (int_val (by omega))), trivial⟩
  · skip
    refine wc_exit ?_
    refine wq_then_exit ?_
    refine wq_then_exit ?_
    refine wq_blk_hit ?_
    refine wq_then_norm (hK3 ?_)
    refine wc_seq ?_; intro K9 hK9
    obtain rfl : k = n2 := by omega
    rw [List.take_of_length_le (by omega)] at HD
    have hHD := HD
    refine wc_draw (by kernel_rfl) 10 rfl ?_; intro wd7 ex hd7
    replace E := E.ext ex
    replace B3 := B3.ext ex
    replace HD := HD.ext ex
    refine wm_y 0 rfl (by kernel_rfl) (y_move rfl) rfl ?_
    refine wm_y 1 rfl (by kernel_rfl) (y_fieldAddr (o := 0) (s := 1) (off := 0) (o' := 0) rfl Tryz.underlying29 rfl (by kernel_rfl) rfl rfl) rfl ?_
    refine wm_y 2 rfl (by kernel_rfl) (y_load1 rfl Tryz.underlying22 rfl (B3.get (i := 0) rfl)) rfl ?_
    refine wm_y 4 rfl (by kernel_rfl) (y_fieldAddr (o := 1) (s := 1) (off := 0) (o' := 1) rfl Tryz.underlying29 rfl (by kernel_rfl) rfl rfl) rfl ?_
    refine wm_y 5 rfl (by kernel_rfl) (y_load1 rfl Tryz.underlying22 rfl (B3.get (i := 1) rfl)) rfl ?_
    refine wm_y 7 rfl (by kernel_rfl) (y_move rfl) rfl ?_
    refine wm_one 3 (by kernel_rfl) ?_; refine om_call rfl Tryz.func34 rfl rfl rfl (pv_any (HA.ext E) (Bs.ext b0 E) (by omega) (by omega)) rfl ?_
    rintro e w5 ⟨A5, k5, c5, rfl, R5, hk5, ex⟩
    refine ⟨_, rfl, .inr ex, ?_⟩
    replace E := E.ext ex
    replace B3 := B3.ext ex
    replace HD := HD.ext ex
    refine wm_one 6 (by kernel_rfl) ?_; refine om_call rfl Tryz.func34 rfl rfl rfl (pv_any R5.bs (Bs.ext b1 E) (by omega) (by omega)) rfl ?_
    rintro e w6 ⟨A6, k6, c6, rfl, R6, hk6, ex⟩
    refine ⟨_, rfl, .inr ex, ?_⟩
    replace E := E.ext ex
    replace B3 := B3.ext ex
    replace R5 := R5.ext ex
    replace HD := HD.ext ex
    have hz8 := E.size
    refine wm_one 8 (by kernel_rfl) ?_; refine om_call rfl Tryz.func34 rfl rfl rfl (pv_any R6.bs HD (by omega) (by omega)) rfl ?_
    rintro e w7 ⟨A7, k7, c7, rfl, R7, hk7, ex⟩
    refine ⟨_, rfl, .inr ex, ?_⟩
    replace E := E.ext ex
    replace B3 := B3.ext ex
    replace R6 := R6.ext ex
    skip
    refine wm_y 9 rfl (by kernel_rfl) (y_assign rfl) rfl ?_
    refine wm_done (by kernel_rfl) ?_
    refine wq_nop ?_
    refine wq_then_norm (hK9 ?_)
    refine wc_ret ?_
    refine hret rfl ?_
    exact ⟨A7, k7, c7, rfl, (R7.lower hz8).congr rfl (by unfold parB; simp only [List.append_assoc]), E⟩
theorem Bytes16_any {cs : Array Value} {n : Node} (w : World) (H : NodeAt w cs n) (hf : n.Fit) :
    Calls Tryz.prog 17 #[.agg cs] w fun e w' => ∃ A' k c', e = .returned (.tuple #[.slice A' k c', .int .u8 (((nodeE n).2 : Nat) : Int)]) ∧ Row w' w.heap.size 5 A' k c' ((nodeE n).1.map bv) ∧ Ext w w' := by
  have HH := H
  obtain ⟨hk, _, _, HL, HP⟩ := NodeC.parts H
  replace HL : LeafAt w _ n.leaf := HL
  replace HP : ParAt w _ n.par := HP
  obtain ⟨h0, h1, h2, h4, h5, p0, p1, p2, rfl, _, hs, b0, b1, b2, b4, b5, q0', q1', q2'⟩ := H
  have l5 := b5.1
  have hU := leafU_le hf.1
  have hf5 := hf.1.2.2.2.2
  have E := Ext.refl w
  refine vc_enter2 30 Tryz.func17 rfl rfl rfl rfl ?_
  intro Q hret
  refine wc_seq ?_; intro K1 hK1
  refine wc_region ?_
  refine wl_ef (ef_box rfl rfl) rfl ?_
  rintro _ wB1 ⟨gB1, rfl, B1, hgB1, ex⟩
  have lB1 := B1.lt; have zB1 := ex.size
  replace E := E.ext ex
  refine wl_y (y_assign rfl) rfl ?_
  refine wl_y (y_assign rfl) rfl ?_
  refine wl_nil ?_
  refine wq_then_norm (hK1 ?_)
  refine wc_seq ?_; intro K2 hK2
  refine wc_seq ?_; intro K3 hK3
  refine wc_region ?_
  refine wl_y (y_loadx (o := 0) (s := 10) rfl Tryz.underlying31 rfl (by kernel_rfl) B1 rfl) rfl ?_
  refine wl_call Tryz.func33 rfl rfl rfl (right_any _ (HH.ext E) hf) rfl ?_
  rintro e w2 ⟨rfl, ex⟩
  refine ⟨_, rfl, ?_⟩
  replace E := E.ext ex
  replace B1 := B1.ext ex
  skip
  refine wl_y (y_not rfl) rfl ?_
  refine wl_nil ?_
  refine wq_then_norm (hK3 ?_)
  refine wc_cond rfl (fun hc1 => ?_) (fun hc1 => ?_)
  · skip
    refine wc_seq ?_; intro K4 hK4
    refine wc_region ?_
    refine wl_y (y_assign rfl) rfl ?_
    refine wl_y (y_assign rfl) rfl ?_
    refine wl_nil ?_
    refine wq_then_norm (hK4 ?_)
    refine wc_ret ?_
    refine wq_then_ret ?_
    refine hret rfl rfl ?_
    have hno : ¬ okNode n := by simpa using hc1
    have e1 : nodeE n = ([], 3) := by unfold nodeE; rw [if_neg hno]
    rw [e1]
    exact ⟨none, 0, 0, rfl, Row.empty _ _ _, E⟩
  · skip
    refine wc_skip ?_
    refine wq_then_norm (hK2 ?_)
    refine wc_seq ?_; intro K5 hK5
    have hyes : okNode n := by simpa using hc1
    have e1 : nodeE n = (nodeB n, 0) := by unfold nodeE; rw [if_pos hyes]
    have hz2 := E.size
    refine wc_region ?_
    refine wl_y (y_fieldAddr (o := 0) (s := 1) (off := 0) (o' := 0) rfl Tryz.underlying31 rfl (by kernel_rfl) rfl rfl) rfl ?_
    refine wl_y (Y.as (y_load1 rfl Tryz.underlying5 rfl (B1.get (i := 0) rfl)) (src_byte hk)) rfl ?_
    refine wl_ef (ef_lit (z := .int .u8 0) Tryz.underlying22 (by kernel_rfl) rfl rfl rfl rfl rfl) rfl ?_
    rintro _ w3 ⟨g4, rfl, B4, hg4, ex⟩
    replace E := E.ext ex
    replace B1 := B1.ext ex
    have R4 : Row w3 w.heap.size 5 (some ⟨g4, 0, none⟩) 1 1 ([UInt8.ofNat n.kind].map bv) := Row.new (cs := #[bv (UInt8.ofNat n.kind)]) B4 (by omega) rfl (by show 1 ≤ maxLen; unfold maxLen; omega)
    refine wl_y (y_assign rfl) rfl ?_
    refine wl_nil ?_
    refine wq_then_norm (hK5 ?_)
    refine wc_seq ?_; intro K6 hK6
    refine wc_seq ?_; intro K7 hK7
    refine wc_region ?_
    refine wl_y (y_fieldAddr (o := 0) (s := 1) (off := 0) (o' := 0) rfl Tryz.underlying31 rfl (by kernel_rfl) rfl rfl) rfl ?_
    refine wl_y (y_load1 rfl Tryz.underlying5 rfl (B1.get (i := 0) rfl)) rfl ?_
    refine wl_nil ?_
    refine wq_then_norm (hK7 ?_)
    refine wc_block ?_
    refine wc_seq ?_; intro K8 hK8
    refine wc_region ?_
    refine wl_yask (y_eql rfl rfl) rfl (fun k1 => ?_) (fun k1 => ?_)
    · skip
      refine wl_y (y_assign rfl) rfl ?_
      refine wl_nil ?_
      refine wq_then_norm (hK8 ?_)
      refine wc_true rfl rfl ?_
      refine wc_draw (by kernel_rfl) 9 rfl ?_; intro wd6 ex hd6
      replace E := E.ext ex
      replace B1 := B1.ext ex
      replace R4 := R4.ext ex
      refine wm_y 0 rfl (by kernel_rfl) (y_move rfl) rfl ?_
      refine wm_y 1 rfl (by kernel_rfl) (y_fieldAddr (o := 1) (s := 6) (off := 0) (o' := 1) rfl Tryz.underlying31 rfl (by kernel_rfl) rfl rfl) rfl ?_
      refine wm_y 2 rfl (by kernel_rfl) (y_loadx (o := 1) (s := 6) rfl Tryz.underlying24 rfl (by kernel_rfl) B1 rfl) rfl ?_
      refine wm_y 4 rfl (by kernel_rfl) (y_fieldAddr (o := 1) (s := 6) (off := 0) (o' := 1) rfl Tryz.underlying31 rfl (by kernel_rfl) rfl rfl) rfl ?_
      refine wm_y 5 rfl (by kernel_rfl) (y_fieldAddr (o := 5) (s := 1) (off := 1) (o' := 6) rfl Tryz.underlying24 rfl (by kernel_rfl) rfl rfl) rfl ?_
      refine wm_y 6 rfl (by kernel_rfl) (y_load1 rfl Tryz.underlying22 rfl (B1.get (i := 6) rfl)) rfl ?_
      refine wm_one 3 (by kernel_rfl) ?_; refine om_call rfl Tryz.func35 rfl rfl rfl (unsigned_any _ R4.bs (by omega) (HL.ext E) hf.1) rfl ?_
      rintro e w4 ⟨A5, k5, c5, rfl, R5, ex⟩
      refine ⟨_, rfl, .inr ex, ?_⟩
      replace E := E.ext ex
      replace B1 := B1.ext ex
      replace R4 := R4.ext ex
      have hk5 := R5.bs.1; rw [List.length_append] at hk5
      have hz6 := E.size
      refine wm_one 7 (by kernel_rfl) ?_; refine om_call rfl Tryz.func34 rfl rfl rfl (pv_any R5.bs (Bs.ext b5 E) (by simp at hk5; omega) (by omega)) rfl ?_
      rintro e w5 ⟨A6, k6, c6, rfl, R6, hk6, ex⟩
      refine ⟨_, rfl, .inr ex, ?_⟩
      replace E := E.ext ex
      replace B1 := B1.ext ex
      replace R4 := R4.ext ex
      replace R5 := R5.ext ex
      skip
      refine wm_y 8 rfl (by kernel_rfl) (y_assign rfl) rfl ?_
      refine wm_done (by kernel_rfl) ?_
      refine wq_nop ?_
      refine wq_blk_norm ?_
      refine wq_then_norm (hK6 ?_)
      refine wc_seq ?_; intro K9 hK9
      refine wc_region ?_
      refine wl_y (y_move rfl) rfl ?_
      refine wl_y (y_assign rfl) rfl ?_
      refine wl_y (y_assign rfl) rfl ?_
      refine wl_nil ?_
      refine wq_then_norm (hK9 ?_)
      refine wc_ret ?_
      refine hret rfl rfl ?_
      rw [e1]
      refine ⟨A6, k6, c6, rfl, (R6.lower hz6).congr rfl ?_, E⟩
      unfold nodeB leafB
      rw [if_pos (by omega)]
      simp
    · skip
      refine wl_y (y_assign rfl) rfl ?_
      refine wl_nil ?_
      refine wq_then_norm (hK8 ?_)
      refine wc_false rfl rfl ?_
      refine wc_seq ?_; intro K10 hK10
      refine wc_region ?_
      refine wl_yask (y_eql rfl rfl) rfl (fun k2 => ?_) (fun k2 => ?_)
      · skip
        refine wl_y (y_assign rfl) rfl ?_
        refine wl_nil ?_
        refine wq_then_norm (hK10 ?_)
        refine wc_true rfl rfl ?_
        have hpar : okPar n.par := by rcases hyes with h | h | h <;> first | exact h.2.2 | (exfalso; omega)
        refine wc_region ?_
        refine wl_y (y_move rfl) rfl ?_
        refine wl_y (y_fieldAddr (o := 7) (s := 3) (off := 0) (o' := 7) rfl Tryz.underlying31 rfl (by kernel_rfl) rfl rfl) rfl ?_
        refine wl_y (y_loadx (o := 7) (s := 3) rfl Tryz.underlying29 rfl (by kernel_rfl) B1 rfl) rfl ?_
        have hz8 := E.size
        refine wl_call Tryz.func36 rfl rfl rfl (parentBytes_any _ R4.bs (by omega) (HP.ext E) hf.2 hpar.1) rfl ?_
        rintro e w4 ⟨A5, k5, c5, rfl, R5, ex⟩
        refine ⟨_, rfl, ?_⟩
        replace E := E.ext ex
        replace B1 := B1.ext ex
        replace R4 := R4.ext ex
        skip
        refine wl_y (y_assign rfl) rfl ?_
        refine wl_nil ?_
        refine wq_blk_norm ?_
        refine wq_then_norm (hK6 ?_)
        refine wc_seq ?_; intro K11 hK11
        refine wc_region ?_
        refine wl_y (y_move rfl) rfl ?_
        refine wl_y (y_assign rfl) rfl ?_
        refine wl_y (y_assign rfl) rfl ?_
        refine wl_nil ?_
        refine wq_then_norm (hK11 ?_)
        refine wc_ret ?_
        refine hret rfl rfl ?_
        rw [e1]
        refine ⟨A5, k5, c5, rfl, (R5.lower hz8).congr rfl ?_, E⟩
        unfold nodeB
        rw [if_neg (by omega), if_pos (by omega)]
        simp
      · skip
        refine wl_y (y_assign rfl) rfl ?_
        refine wl_nil ?_
        refine wq_then_norm (hK10 ?_)
        refine wc_false rfl rfl ?_
        refine wc_skip ?_
        refine wq_blk_norm ?_
        refine wq_then_norm (hK6 ?_)
        refine wc_seq ?_; intro K12 hK12
        refine wc_region ?_
        refine wl_y (y_move rfl) rfl ?_
        refine wl_y (y_assign rfl) rfl ?_
        refine wl_y (y_assign rfl) rfl ?_
        refine wl_nil ?_
        refine wq_then_norm (hK12 ?_)
        refine wc_ret ?_
        refine hret rfl rfl ?_
        rw [e1]
        refine ⟨some ⟨g4, 0, none⟩, 1, 1, rfl, R4.congr rfl ?_, E⟩
        unfold nodeB
        rw [if_neg (by omega), if_neg (by omega)]
end Go.Proofs.YtopimmomkapdoaaGreat
