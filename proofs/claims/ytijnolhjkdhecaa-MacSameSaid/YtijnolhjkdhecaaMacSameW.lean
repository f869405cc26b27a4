/- The walk of the law MacSame: it answers true whatever it is given. Lengths within an int. -/
import Derived.Test.YtijnolhjkdhecaaMacC
namespace Go.Proofs.Ytijnolhjkdhecaa
open Go.RowKit
attribute [local irreducible] Y Ef WL WC WK WQ WM OpM
theorem xor_self_iff (x b : UInt8) : x ^^^ b = x ↔ b = 0 := by
  constructor
  · intro h
    have := congrArg (fun y => x ^^^ y) h
    simpa [← UInt8.xor_assoc] using this
  · rintro rfl; simp
theorem set_same_iff (xs : List UInt8) (j : Nat) (b : UInt8) (hj : j < xs.length) : xs = xs.set j (xs.getD j 0 ^^^ b) ↔ b = 0 := by
  constructor
  · intro h
    have h1 := congrArg (fun l => l.getD j 0) h
    simp [hj] at h1
    exact (xor_self_iff _ _).1 h1.symm
  · rintro rfl
    simp [hj]
theorem macSame_law (A : Option Addr) (n c : Nat) (xs : List UInt8) (B : Option Addr) (m d : Nat) (ys : List UInt8) (at' by' : Int) (w : World)
    (HA : Bs w A n xs) (hn : n ≤ maxLen) (HB : Bs w B m ys) (hm : m ≤ maxLen) (h8 : (Lit.int .u8 at').wf = true) (h9 : (Lit.int .u8 by').wf = true) :
    Calls Try.prog 5 #[.slice A n c, .slice B m d, .int .u8 at', .int .u8 by'] w fun e w' => e = .returned (.bool true) ∧ Below w.heap.size w w' := by
  unfold maxLen at hn hm
  have ha : 0 ≤ at' ∧ at' ≤ 255 := bounds_u8 h8
  obtain ⟨b, rfl⟩ := u8_of h9
  have hbl := b.toNat_lt
  have hxl := HA.1
  have E := Ext.refl w
  refine vc_enter1 78 Try.func5 rfl rfl rfl rfl ?_
  intro Q hret
  refine wc_seq ?_; intro K1 hK1
  refine wc_region ?_
  refine wl_y (y_assign rfl) rfl ?_
  refine wl_nil ?_
  refine wq_then_norm (hK1 ?_)
  refine wc_seq ?_; intro K2 hK2
  refine wc_seq ?_; intro K3 hK3
  refine wc_region ?_
  refine wl_call Try.func20 rfl rfl rfl (alive4_any _) rfl ?_
  rintro e w1 ⟨rfl, ex⟩
  refine ⟨_, rfl, ?_⟩
  replace HA := HA.ext ex
  replace HB := HB.ext ex
  replace E := E.ext ex
  refine wl_y (y_not rfl) rfl ?_
  refine wl_nil ?_
  refine wq_then_norm (hK3 ?_)
  refine wc_false rfl rfl ?_
  refine wc_skip ?_
  refine wq_then_norm (hK2 ?_)
  refine wc_seq ?_; intro K4 hK4
  refine wc_seq ?_; intro K5 hK5
  refine wc_region ?_
  refine wl_y (y_move rfl) rfl ?_
  refine wl_y (y_len_slice rfl Try.underlying22) rfl ?_
  refine wl_yask (y_gtr rfl rfl) rfl (fun h1 => ?_) (fun h1 => ?_)
  · skip
    refine wl_y (y_move rfl) rfl ?_
    refine wl_gno 15 rfl rfl rfl rfl ?_
    refine wl_gno 15 rfl rfl rfl rfl ?_
    refine wl_gno 15 rfl rfl rfl rfl ?_
    refine wl_y (y_pickt rfl rfl) rfl ?_
    refine wl_nil ?_
    refine wq_then_norm (hK5 ?_)
    refine wc_true rfl rfl ?_
    refine wc_seq ?_; intro K6 hK6
    refine wc_region ?_
    refine wl_y (y_assign rfl) rfl ?_
    refine wl_nil ?_
    refine wq_then_norm (hK6 ?_)
    refine wc_ret ?_
    refine wq_then_ret ?_
    refine hret rfl ?_
    exact ⟨rfl, E⟩
  · skip
    refine wl_y (y_move rfl) rfl ?_
    refine wl_gy 15 rfl rfl (y_move rfl) rfl ?_
    refine wl_gy 15 rfl rfl (y_len_slice rfl Try.underlying22) rfl ?_
    refine wl_gyask 15 rfl rfl (y_gtr rfl rfl) rfl (fun h2 => ?_) (fun h2 => ?_)
    · skip
      refine wl_y (y_pickf rfl rfl) rfl ?_
      refine wl_nil ?_
      refine wq_then_norm (hK5 ?_)
      refine wc_true rfl rfl ?_
      refine wc_seq ?_; intro K7 hK7
      refine wc_region ?_
      refine wl_y (y_assign rfl) rfl ?_
      refine wl_nil ?_
      refine wq_then_norm (hK7 ?_)
      refine wc_ret ?_
      refine wq_then_ret ?_
      refine hret rfl ?_
      exact ⟨rfl, E⟩
    · skip
      refine wl_y (y_pickf rfl rfl) rfl ?_
      refine wl_nil ?_
      refine wq_then_norm (hK5 ?_)
      refine wc_false rfl rfl ?_
      refine wc_skip ?_
      refine wq_then_norm (hK4 ?_)
      refine wc_seq ?_; intro K8 hK8
      refine wc_region ?_
      have HA1 := HA; have HB1 := HB; have E1 := E
      refine wl_ef (ef_lit (z := .int .u8 0) Try.underlying22 (by kernel_rfl) rfl rfl rfl rfl rfl) rfl ?_
      rintro _ w2 ⟨g2, rfl, B2, hg2, ex⟩
      have x2 := ex; have R2 : Row w2 w1.heap.size 5 (some ⟨g2, 0, none⟩) 0 0 (([] : List UInt8).map bv) := Row.new B2 hg2 rfl (by unfold maxLen; omega)
      refine wl_y (y_move rfl) rfl ?_
      refine wl_ef (ef_app0 rfl rfl eltB R2 (HA.ext x2).2 (by rw [List.length_map, HA.1]) (by intro u hu; exact bv_one u hu) (by omega) (by omega) x2.size) rfl ?_
      rintro _ w3 ⟨A3, c3, rfl, R3, be, gr, hl⟩
      have ex : Ext w1 w3 := x2.trans be; have R := R3; have F := ex
      replace HA := HA.ext ex
      replace HB := HB.ext ex
      replace E := E.ext ex
      refine wl_y (y_assign rfl) rfl ?_
      refine wl_nil ?_
      refine wq_then_norm (hK8 ?_)
      refine wc_seq ?_; intro K9 hK9
      refine wc_seq ?_; intro K10 hK10
      refine wc_region ?_
      refine wl_y (y_move rfl) rfl ?_
      refine wl_y (y_len_slice rfl Try.underlying22) rfl ?_
      refine wl_y (y_gtr rfl rfl) rfl ?_
      refine wl_nil ?_
      refine wq_then_norm (hK10 ?_)
      refine wc_dec rfl (fun hc3 => ?_) (fun hc3 => ?_)
      · skip
        obtain ⟨j, hj⟩ : ∃ j : Nat, at' % (n : Int) = j := Int.eq_ofNat_of_zero_le (Int.emod_nonneg _ (by omega))
        have hj2 : at' % (n : Int) < n := Int.emod_lt_of_pos _ (by omega)
        obtain ⟨g, rfl, hcell, hg, _⟩ := R.byte (i := j) (by omega)
        have hxj := (xs.getD j 0).toNat_lt
        refine wc_draw (by kernel_rfl) 18 rfl ?_; intro wd7 ex hd7
        replace HA := HA.ext ex
        replace HB := HB.ext ex
        replace E := E.ext ex
        replace R := R.ext ex
        refine wm_y 0 rfl (by kernel_rfl) (y_move rfl) rfl ?_
        refine wm_y 1 rfl (by kernel_rfl) (y_move rfl) rfl ?_
        refine wm_y 2 rfl (by kernel_rfl) (y_conv rfl Try.underlying5 Try.underlying3 (i64_ok (by omega) (by omega))) rfl ?_
        refine wm_y 3 rfl (by kernel_rfl) (y_move rfl) rfl ?_
        refine wm_y 4 rfl (by kernel_rfl) (y_len_slice rfl Try.underlying22) rfl ?_
        refine wm_y 5 rfl (by kernel_rfl) (y_rem rfl rfl (by omega) (IntWalk.rem_in _ _ (by omega))) rfl ?_
        refine wm_y 6 rfl (by kernel_rfl) (y_move rfl) rfl ?_
        refine wm_y 7 rfl (by kernel_rfl) (y_move rfl) rfl ?_
        refine wm_y 8 rfl (by kernel_rfl) (y_conv rfl Try.underlying5 Try.underlying3 (i64_ok (by omega) (by omega))) rfl ?_
        refine wm_y 9 rfl (by kernel_rfl) (y_move rfl) rfl ?_
        refine wm_y 10 rfl (by kernel_rfl) (y_len_slice rfl Try.underlying22) rfl ?_
        refine wm_y 11 rfl (by kernel_rfl) (y_rem rfl rfl (by omega) (IntWalk.rem_in _ _ (by omega))) rfl ?_
        refine wm_y 12 rfl (by kernel_rfl) (y_ixs1 rfl rfl Try.underlying22 (by kernel_rfl) (j := j) hj (by omega)) rfl ?_
        replace hcell := (ex.cell (cell_lt hcell)).trans hcell
        refine wm_y 13 rfl (by kernel_rfl) (y_load1 rfl Try.underlying5 rfl hcell) rfl ?_
        refine wm_y 14 rfl (by kernel_rfl) (y_move rfl) rfl ?_
        refine wm_y 15 rfl (by kernel_rfl) (y_xor rfl rfl (bits_u8 (by omega) (by omega)).2.2) rfl ?_
        refine wm_y 16 rfl (by kernel_rfl) (y_ixs1 rfl rfl Try.underlying22 (by kernel_rfl) (j := j) hj (by omega)) rfl ?_
        have F' := F.ext ex
        refine wm_one 17 (by kernel_rfl) ?_; refine om_ef rfl (ef_storeR rfl rfl rfl (by kernel_rfl) R (by omega)) rfl ?_
        rintro _ w7 ⟨rfl, R7, cg⟩
        refine ⟨.inl rfl, ?_⟩
        have F7 := F'.chg cg hg; have HA := HA1.ext F7; have HB := HB1.ext F7; have E := E1.ext F7; have hset : (xs.map bv).set j (.int .u8 (((xs.getD j 0).toNat ^^^ b.toNat : Nat) : Int)) = (xs.set j (xs.getD j 0 ^^^ b)).map bv := by rw [List.map_set]; try rfl
        rw [hset] at R7; have R := R7; have hlen : (xs.set j (xs.getD j 0 ^^^ b)).length = n := by simp [HA.1]
        refine wm_done (by kernel_rfl) ?_
        refine wq_nop ?_
        refine wq_then_norm (hK9 ?_)
        refine wc_seq ?_; intro K11 hK11
        refine wc_region ?_
        refine wl_y (y_move rfl) rfl ?_
        refine wl_y (y_move rfl) rfl ?_
        refine wl_call Try.func21 rfl rfl rfl (macSame_any A B n m c d xs ys _ HA HB (by omega) (by omega)) rfl ?_
        rintro e w8 ⟨rfl, ex⟩
        refine ⟨_, rfl, ?_⟩
        replace HA := HA.ext ex
        replace HB := HB.ext ex
        replace E := E.ext ex
        replace R := R.ext ex
        skip
        refine wl_y (y_move rfl) rfl ?_
        refine wl_y (y_move rfl) rfl ?_
        refine wl_call Try.func16 rfl rfl rfl (same_any A B n m c d xs ys _ HA HB (by omega) (by omega)) rfl ?_
        rintro e w9 ⟨rfl, k9, rfl⟩
        have ex := Ext.drewN w8 k9
        refine ⟨_, rfl, ?_⟩
        replace HA := HA.ext ex
        replace HB := HB.ext ex
        replace E := E.ext ex
        replace R := R.ext ex
        skip
        refine wl_y (Y.as (y_eqlb rfl rfl Try.underlying4) (congrArg Value.bool (show _ = true from by simp))) rfl ?_
        refine wl_y (y_move rfl) rfl ?_
        refine wl_gy 50 rfl rfl (y_move rfl) rfl ?_
        refine wl_gy 50 rfl rfl (y_move rfl) rfl ?_
        refine wl_gcall 50 rfl rfl Try.func21 rfl rfl rfl (macSame_any A (some ⟨g, 0, none⟩) n _ c c3 xs (xs.set j (xs.getD j 0 ^^^ b)) _ HA R.bs (by omega) (by omega)) rfl ?_
        rintro e w10 ⟨rfl, ex⟩
        refine ⟨_, rfl, ?_⟩
        replace HA := HA.ext ex
        replace HB := HB.ext ex
        replace E := E.ext ex
        replace R := R.ext ex
        skip
        refine wl_gy 50 rfl rfl (y_move rfl) rfl ?_
        refine wl_gyask 50 rfl rfl (y_eql rfl rfl) rfl (fun hb0 => ?_) (fun hb0 => ?_)
        · skip
          refine wl_gy 50 rfl rfl (y_move rfl) rfl ?_
          refine wl_gno 56 rfl rfl rfl rfl ?_
          refine wl_gno 56 rfl rfl rfl rfl ?_
          refine wl_gno 56 rfl rfl rfl rfl ?_
          refine wl_gy 50 rfl rfl (y_pickt rfl rfl) rfl ?_
          refine wl_gy 50 rfl rfl (Y.as (y_eqlb rfl rfl Try.underlying4) (congrArg Value.bool (show _ = true from by simp; exact (set_same_iff xs j b (by omega)).2 (UInt8.toNat_inj.1 (by simp; omega))))) rfl ?_
          refine wl_y (y_pickt rfl rfl) rfl ?_
          refine wl_y (y_move rfl) rfl ?_
          refine wl_gy 63 rfl rfl (y_move rfl) rfl ?_
          refine wl_gy 63 rfl rfl (y_move rfl) rfl ?_
          refine wl_gcall 63 rfl rfl Try.func21 rfl rfl rfl (macSame_any A A n n c c xs xs _ HA HA (by omega) (by omega)) rfl ?_
          rintro e w11 ⟨rfl, ex⟩
          refine ⟨_, rfl, ?_⟩
          replace HA := HA.ext ex
          replace HB := HB.ext ex
          replace E := E.ext ex
          replace R := R.ext ex
          rw [decide_eq_true rfl]
          refine wl_y (y_pickt rfl rfl) rfl ?_
          refine wl_y (y_move rfl) rfl ?_
          refine wl_gy 68 rfl rfl (y_move rfl) rfl ?_
          refine wl_gef 68 rfl rfl (ef_lit (z := .int .u8 0) Try.underlying22 (by kernel_rfl) rfl rfl rfl rfl rfl) rfl ?_
          rintro _ w12 ⟨g12, rfl, B12, hg12, ex⟩
          have x12 := ex; have R12 : Row w12 w11.heap.size 5 (some ⟨g12, 0, none⟩) 0 0 (([] : List UInt8).map bv) := Row.new B12 hg12 rfl (by unfold maxLen; omega)
          refine wl_gy 68 rfl rfl (y_move rfl) rfl ?_
          refine wl_gef 68 rfl rfl (ef_app0 rfl rfl eltB R12 (HA.ext x12).2 (by rw [List.length_map, HA.1]) (by intro u hu; exact bv_one u hu) (by omega) (by omega) x12.size) rfl ?_
          rintro _ w13 ⟨A13, c13, rfl, R13, be, gr, hl⟩
          have x13 : Ext w11 w13 := x12.trans be; have R13' := R13
          refine wl_gef 68 rfl rfl (ef_lit (z := .int .u8 0) Try.underlying22 (by kernel_rfl) rfl rfl rfl rfl rfl) rfl ?_
          rintro _ w14 ⟨g14, rfl, B14, hg14, ex⟩
          have x14 := x13.ext ex; have R14 := R13'.ext ex; have hs14 := x14.size
          refine wl_gef 68 rfl rfl (ef_app rfl rfl eltB R14 (At.blk (vs := [(0 : UInt8)].map bv) (B14.congr (by rfl))) rfl (by intro u hu; exact bv_one u hu) (by omega) (by omega) hs14) rfl ?_
          rintro _ w15 ⟨A15, c15, rfl, R15, be, gr, hl⟩
          have ex : Ext w11 w15 := x14.trans be; have R15' := R15.cat.bs
          replace HA := HA.ext ex
          replace HB := HB.ext ex
          replace E := E.ext ex
          replace R := R.ext ex
          refine wl_gcall 68 rfl rfl Try.func21 rfl rfl rfl (macSame_any A A15 n _ c c15 xs _ _ HA R15' (by omega) (by omega)) rfl ?_
          rintro e w16 ⟨rfl, ex⟩
          refine ⟨_, rfl, ?_⟩
          replace HA := HA.ext ex
          replace HB := HB.ext ex
          replace E := E.ext ex
          replace R := R.ext ex
          rw [decide_eq_false (by simp)]
          refine wl_gy 68 rfl rfl (y_not rfl) rfl ?_
          refine wl_y (y_pickt rfl rfl) rfl ?_
          refine wl_y (y_assign rfl) rfl ?_
          refine wl_nil ?_
          refine wq_then_norm (hK11 ?_)
          refine wc_ret ?_
          refine hret rfl ?_
          exact ⟨rfl, E⟩
        · skip
          refine wl_gy 50 rfl rfl (y_move rfl) rfl ?_
          refine wl_gy 56 rfl rfl (y_move rfl) rfl ?_
          refine wl_gy 56 rfl rfl (y_len_slice rfl Try.underlying22) rfl ?_
          refine wl_gy 56 rfl rfl (Y.as (y_eql rfl rfl) (congrArg Value.bool (show _ = false from by simp; omega))) rfl ?_
          refine wl_gy 50 rfl rfl (y_pickf rfl rfl) rfl ?_
          refine wl_gy 50 rfl rfl (Y.as (y_eqlb rfl rfl Try.underlying4) (congrArg Value.bool (show _ = true from by simp; intro h; exact hb0 (by rw [(set_same_iff xs j b (by omega)).1 h]; rfl)))) rfl ?_
          refine wl_y (y_pickt rfl rfl) rfl ?_
          refine wl_y (y_move rfl) rfl ?_
          refine wl_gy 63 rfl rfl (y_move rfl) rfl ?_
          refine wl_gy 63 rfl rfl (y_move rfl) rfl ?_
          refine wl_gcall 63 rfl rfl Try.func21 rfl rfl rfl (macSame_any A A n n c c xs xs _ HA HA (by omega) (by omega)) rfl ?_
          rintro e w11 ⟨rfl, ex⟩
          refine ⟨_, rfl, ?_⟩
          replace HA := HA.ext ex
          replace HB := HB.ext ex
          replace E := E.ext ex
          replace R := R.ext ex
          rw [decide_eq_true rfl]
          refine wl_y (y_pickt rfl rfl) rfl ?_
          refine wl_y (y_move rfl) rfl ?_
          refine wl_gy 68 rfl rfl (y_move rfl) rfl ?_
          refine wl_gef 68 rfl rfl (ef_lit (z := .int .u8 0) Try.underlying22 (by kernel_rfl) rfl rfl rfl rfl rfl) rfl ?_
          rintro _ w12 ⟨g12, rfl, B12, hg12, ex⟩
          have x12 := ex; have R12 : Row w12 w11.heap.size 5 (some ⟨g12, 0, none⟩) 0 0 (([] : List UInt8).map bv) := Row.new B12 hg12 rfl (by unfold maxLen; omega)
          refine wl_gy 68 rfl rfl (y_move rfl) rfl ?_
          refine wl_gef 68 rfl rfl (ef_app0 rfl rfl eltB R12 (HA.ext x12).2 (by rw [List.length_map, HA.1]) (by intro u hu; exact bv_one u hu) (by omega) (by omega) x12.size) rfl ?_
          rintro _ w13 ⟨A13, c13, rfl, R13, be, gr, hl⟩
          have x13 : Ext w11 w13 := x12.trans be; have R13' := R13
          refine wl_gef 68 rfl rfl (ef_lit (z := .int .u8 0) Try.underlying22 (by kernel_rfl) rfl rfl rfl rfl rfl) rfl ?_
          rintro _ w14 ⟨g14, rfl, B14, hg14, ex⟩
          have x14 := x13.ext ex; have R14 := R13'.ext ex; have hs14 := x14.size
          refine wl_gef 68 rfl rfl (ef_app rfl rfl eltB R14 (At.blk (vs := [(0 : UInt8)].map bv) (B14.congr (by rfl))) rfl (by intro u hu; exact bv_one u hu) (by omega) (by omega) hs14) rfl ?_
          rintro _ w15 ⟨A15, c15, rfl, R15, be, gr, hl⟩
          have ex : Ext w11 w15 := x14.trans be; have R15' := R15.cat.bs
          replace HA := HA.ext ex
          replace HB := HB.ext ex
          replace E := E.ext ex
          replace R := R.ext ex
          refine wl_gcall 68 rfl rfl Try.func21 rfl rfl rfl (macSame_any A A15 n _ c c15 xs _ _ HA R15' (by omega) (by omega)) rfl ?_
          rintro e w16 ⟨rfl, ex⟩
          refine ⟨_, rfl, ?_⟩
          replace HA := HA.ext ex
          replace HB := HB.ext ex
          replace E := E.ext ex
          replace R := R.ext ex
          rw [decide_eq_false (by simp)]
          refine wl_gy 68 rfl rfl (y_not rfl) rfl ?_
          refine wl_y (y_pickt rfl rfl) rfl ?_
          refine wl_y (y_assign rfl) rfl ?_
          refine wl_nil ?_
          refine wq_then_norm (hK11 ?_)
          refine wc_ret ?_
          refine hret rfl ?_
          exact ⟨rfl, E⟩
      · skip
        refine wc_skip ?_
        refine wq_then_norm (hK9 ?_)
        refine wc_seq ?_; intro K12 hK12
        refine wc_region ?_
        refine wl_y (y_move rfl) rfl ?_
        refine wl_y (y_move rfl) rfl ?_
        refine wl_call Try.func21 rfl rfl rfl (macSame_any A B n m c d xs ys _ HA HB (by omega) (by omega)) rfl ?_
        rintro e w8 ⟨rfl, ex⟩
        refine ⟨_, rfl, ?_⟩
        replace HA := HA.ext ex
        replace HB := HB.ext ex
        replace E := E.ext ex
        replace R := R.ext ex
        skip
        refine wl_y (y_move rfl) rfl ?_
        refine wl_y (y_move rfl) rfl ?_
        refine wl_call Try.func16 rfl rfl rfl (same_any A B n m c d xs ys _ HA HB (by omega) (by omega)) rfl ?_
        rintro e w9 ⟨rfl, k9, rfl⟩
        have ex := Ext.drewN w8 k9
        refine ⟨_, rfl, ?_⟩
        replace HA := HA.ext ex
        replace HB := HB.ext ex
        replace E := E.ext ex
        replace R := R.ext ex
        skip
        refine wl_y (Y.as (y_eqlb rfl rfl Try.underlying4) (congrArg Value.bool (show _ = true from by simp))) rfl ?_
        refine wl_y (y_move rfl) rfl ?_
        refine wl_gy 50 rfl rfl (y_move rfl) rfl ?_
        refine wl_gy 50 rfl rfl (y_move rfl) rfl ?_
        refine wl_gcall 50 rfl rfl Try.func21 rfl rfl rfl (macSame_any A A3 n _ c c3 xs xs _ HA R.bs (by omega) (by omega)) rfl ?_
        rintro e w10 ⟨rfl, ex⟩
        refine ⟨_, rfl, ?_⟩
        replace HA := HA.ext ex
        replace HB := HB.ext ex
        replace E := E.ext ex
        replace R := R.ext ex
        skip
        refine wl_gy 50 rfl rfl (y_move rfl) rfl ?_
        refine wl_gyask 50 rfl rfl (y_eql rfl rfl) rfl (fun hb0 => ?_) (fun hb0 => ?_)
        · skip
          refine wl_gy 50 rfl rfl (y_move rfl) rfl ?_
          refine wl_gno 56 rfl rfl rfl rfl ?_
          refine wl_gno 56 rfl rfl rfl rfl ?_
          refine wl_gno 56 rfl rfl rfl rfl ?_
          refine wl_gy 50 rfl rfl (y_pickt rfl rfl) rfl ?_
          refine wl_gy 50 rfl rfl (Y.as (y_eqlb rfl rfl Try.underlying4) (congrArg Value.bool (show _ = true from by simp))) rfl ?_
          refine wl_y (y_pickt rfl rfl) rfl ?_
          refine wl_y (y_move rfl) rfl ?_
          refine wl_gy 63 rfl rfl (y_move rfl) rfl ?_
          refine wl_gy 63 rfl rfl (y_move rfl) rfl ?_
          refine wl_gcall 63 rfl rfl Try.func21 rfl rfl rfl (macSame_any A A n n c c xs xs _ HA HA (by omega) (by omega)) rfl ?_
          rintro e w11 ⟨rfl, ex⟩
          refine ⟨_, rfl, ?_⟩
          replace HA := HA.ext ex
          replace HB := HB.ext ex
          replace E := E.ext ex
          replace R := R.ext ex
          rw [decide_eq_true rfl]
          refine wl_y (y_pickt rfl rfl) rfl ?_
          refine wl_y (y_move rfl) rfl ?_
          refine wl_gy 68 rfl rfl (y_move rfl) rfl ?_
          refine wl_gef 68 rfl rfl (ef_lit (z := .int .u8 0) Try.underlying22 (by kernel_rfl) rfl rfl rfl rfl rfl) rfl ?_
          rintro _ w12 ⟨g12, rfl, B12, hg12, ex⟩
          have x12 := ex; have R12 : Row w12 w11.heap.size 5 (some ⟨g12, 0, none⟩) 0 0 (([] : List UInt8).map bv) := Row.new B12 hg12 rfl (by unfold maxLen; omega)
          refine wl_gy 68 rfl rfl (y_move rfl) rfl ?_
          refine wl_gef 68 rfl rfl (ef_app0 rfl rfl eltB R12 (HA.ext x12).2 (by rw [List.length_map, HA.1]) (by intro u hu; exact bv_one u hu) (by omega) (by omega) x12.size) rfl ?_
          rintro _ w13 ⟨A13, c13, rfl, R13, be, gr, hl⟩
          have x13 : Ext w11 w13 := x12.trans be; have R13' := R13
          refine wl_gef 68 rfl rfl (ef_lit (z := .int .u8 0) Try.underlying22 (by kernel_rfl) rfl rfl rfl rfl rfl) rfl ?_
          rintro _ w14 ⟨g14, rfl, B14, hg14, ex⟩
          have x14 := x13.ext ex; have R14 := R13'.ext ex; have hs14 := x14.size
          refine wl_gef 68 rfl rfl (ef_app rfl rfl eltB R14 (At.blk (vs := [(0 : UInt8)].map bv) (B14.congr (by rfl))) rfl (by intro u hu; exact bv_one u hu) (by omega) (by omega) hs14) rfl ?_
          rintro _ w15 ⟨A15, c15, rfl, R15, be, gr, hl⟩
          have ex : Ext w11 w15 := x14.trans be; have R15' := R15.cat.bs
          replace HA := HA.ext ex
          replace HB := HB.ext ex
          replace E := E.ext ex
          replace R := R.ext ex
          refine wl_gcall 68 rfl rfl Try.func21 rfl rfl rfl (macSame_any A A15 n _ c c15 xs _ _ HA R15' (by omega) (by omega)) rfl ?_
          rintro e w16 ⟨rfl, ex⟩
          refine ⟨_, rfl, ?_⟩
          replace HA := HA.ext ex
          replace HB := HB.ext ex
          replace E := E.ext ex
          replace R := R.ext ex
          rw [decide_eq_false (by simp)]
          refine wl_gy 68 rfl rfl (y_not rfl) rfl ?_
          refine wl_y (y_pickt rfl rfl) rfl ?_
          refine wl_y (y_assign rfl) rfl ?_
          refine wl_nil ?_
          refine wq_then_norm (hK12 ?_)
          refine wc_ret ?_
          refine hret rfl ?_
          exact ⟨rfl, E⟩
        · skip
          refine wl_gy 50 rfl rfl (y_move rfl) rfl ?_
          refine wl_gy 56 rfl rfl (y_move rfl) rfl ?_
          refine wl_gy 56 rfl rfl (y_len_slice rfl Try.underlying22) rfl ?_
          refine wl_gy 56 rfl rfl (Y.as (y_eql rfl rfl) (congrArg Value.bool (show _ = true from by simp; omega))) rfl ?_
          refine wl_gy 50 rfl rfl (y_pickf rfl rfl) rfl ?_
          refine wl_gy 50 rfl rfl (Y.as (y_eqlb rfl rfl Try.underlying4) (congrArg Value.bool (show _ = true from by simp))) rfl ?_
          refine wl_y (y_pickt rfl rfl) rfl ?_
          refine wl_y (y_move rfl) rfl ?_
          refine wl_gy 63 rfl rfl (y_move rfl) rfl ?_
          refine wl_gy 63 rfl rfl (y_move rfl) rfl ?_
          refine wl_gcall 63 rfl rfl Try.func21 rfl rfl rfl (macSame_any A A n n c c xs xs _ HA HA (by omega) (by omega)) rfl ?_
          rintro e w11 ⟨rfl, ex⟩
          refine ⟨_, rfl, ?_⟩
          replace HA := HA.ext ex
          replace HB := HB.ext ex
          replace E := E.ext ex
          replace R := R.ext ex
          rw [decide_eq_true rfl]
          refine wl_y (y_pickt rfl rfl) rfl ?_
          refine wl_y (y_move rfl) rfl ?_
          refine wl_gy 68 rfl rfl (y_move rfl) rfl ?_
          refine wl_gef 68 rfl rfl (ef_lit (z := .int .u8 0) Try.underlying22 (by kernel_rfl) rfl rfl rfl rfl rfl) rfl ?_
          rintro _ w12 ⟨g12, rfl, B12, hg12, ex⟩
          have x12 := ex; have R12 : Row w12 w11.heap.size 5 (some ⟨g12, 0, none⟩) 0 0 (([] : List UInt8).map bv) := Row.new B12 hg12 rfl (by unfold maxLen; omega)
          refine wl_gy 68 rfl rfl (y_move rfl) rfl ?_
          refine wl_gef 68 rfl rfl (ef_app0 rfl rfl eltB R12 (HA.ext x12).2 (by rw [List.length_map, HA.1]) (by intro u hu; exact bv_one u hu) (by omega) (by omega) x12.size) rfl ?_
          rintro _ w13 ⟨A13, c13, rfl, R13, be, gr, hl⟩
          have x13 : Ext w11 w13 := x12.trans be; have R13' := R13
          refine wl_gef 68 rfl rfl (ef_lit (z := .int .u8 0) Try.underlying22 (by kernel_rfl) rfl rfl rfl rfl rfl) rfl ?_
          rintro _ w14 ⟨g14, rfl, B14, hg14, ex⟩
          have x14 := x13.ext ex; have R14 := R13'.ext ex; have hs14 := x14.size
          refine wl_gef 68 rfl rfl (ef_app rfl rfl eltB R14 (At.blk (vs := [(0 : UInt8)].map bv) (B14.congr (by rfl))) rfl (by intro u hu; exact bv_one u hu) (by omega) (by omega) hs14) rfl ?_
          rintro _ w15 ⟨A15, c15, rfl, R15, be, gr, hl⟩
          have ex : Ext w11 w15 := x14.trans be; have R15' := R15.cat.bs
          replace HA := HA.ext ex
          replace HB := HB.ext ex
          replace E := E.ext ex
          replace R := R.ext ex
          refine wl_gcall 68 rfl rfl Try.func21 rfl rfl rfl (macSame_any A A15 n _ c c15 xs _ _ HA R15' (by omega) (by omega)) rfl ?_
          rintro e w16 ⟨rfl, ex⟩
          refine ⟨_, rfl, ?_⟩
          replace HA := HA.ext ex
          replace HB := HB.ext ex
          replace E := E.ext ex
          replace R := R.ext ex
          rw [decide_eq_false (by simp)]
          refine wl_gy 68 rfl rfl (y_not rfl) rfl ?_
          refine wl_y (y_pickt rfl rfl) rfl ?_
          refine wl_y (y_assign rfl) rfl ?_
          refine wl_nil ?_
          refine wq_then_norm (hK12 ?_)
          refine wc_ret ?_
          refine hret rfl ?_
          exact ⟨rfl, E⟩
end Go.Proofs.Ytijnolhjkdhecaa
