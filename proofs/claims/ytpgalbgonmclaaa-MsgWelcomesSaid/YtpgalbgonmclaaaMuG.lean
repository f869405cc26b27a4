/- A guest's secrets of bytes; the reference's welcomes; the law MsgWelcomes. No conditions: contracts of functions. -/
import Derived.Test.YtpgalbgonmclaaaMuF
import Derived.Test.YtpgalbgonmclaaaMsM
namespace Go.Proofs.Ytpgalbgonmclaaa
open Go.RowKit
attribute [local irreducible] Y Ef WL WC WK WQ WM OpM WN WF OpN WJ OpJ WG OpG
open Wire Nd M20
theorem secOf1_any {N gi gr g2 g5 g3 M : Nat} {s : St} (w : World) (H : In N [gi, gr, g2, g5, g3] w gi gr s) (C2 : Blk w g2 22 #[.slice none 0 0]) (C5 : Blk w g5 4 #[.bool false]) (C3 : Blk w g3 22 #[.slice none 0 0]) (i2 : gi ≠ g2) (i5 : gi ≠ g5) (i3 : gi ≠ g3) (r2 : gr ≠ g2) (r5 : gr ≠ g5) (r3 : gr ≠ g3) (n25 : g2 ≠ g5) (n23 : g2 ≠ g3) (n53 : g5 ≠ g3) (hM1 : M ≤ gi) (hM2 : M ≤ gr) (hM : M ≤ w.heap.size) :
    Calls Try.prog 132 #[.pointer (some ⟨gi, 0, none⟩), .pointer (some ⟨g2, 0, none⟩), .pointer (some ⟨g5, 0, none⟩), .pointer (some ⟨g3, 0, none⟩)] w fun e w' => e = .returned (.tuple #[]) ∧ In N [gi, gr, g2, g5, g3] w' gi gr (secX s).2 ∧ (∃ h h' : Hd, Blk w' g2 22 #[.slice h.A h.n h.c] ∧ Blk w' g5 4 #[.bool (secX s).1.2.1] ∧ Blk w' g3 22 #[.slice h'.A h'.n h'.c] ∧ Kp w'.heap.size [gi, g2, g5, g3] (fun w => Fb M w h.A h.n (secX s).1.1 ∧ Fb M w h'.A h'.n (secX s).1.2.2) w') ∧ Lat M [g2, g5, g3] w w' := by
  have hli := H.lti
  have hlr := H.ltr
  have l2 := C2.lt; have l5 := C5.lt; have l3 := C3.lt
  have F := Chs.refl [gr, gi, g2, g5, g3] w
  obtain ⟨g, hg⟩ : ∃ g, g = vecX s := ⟨_, rfl⟩
  obtain ⟨f, hf⟩ : ∃ f, f = flagX g.2 := ⟨_, rfl⟩
  obtain ⟨y, hy⟩ : ∃ y, y = if f.1 then vecX f.2 else ([], f.2) := ⟨_, rfl⟩
  have hX : secX s = ((g.1, f.1, y.1), y.2) := by rw [hy, hf, hg]; rfl
  refine vc_enter0 12 Try.func132 rfl rfl rfl rfl ?_
  intro Q hret
  refine wc_seq ?_; intro K1 hK1
  refine wc_region ?_
  refine wl_y (y_move rfl) rfl ?_
  refine wl_call Try.func114 rfl rfl rfl (ivec_any _ H) rfl ?_
  rintro e w1 ⟨A1, n1, c1, rfl, hc1', V1, H1, ex⟩
  refine ⟨_, rfl, ?_⟩
  replace F := F.chs ex
  replace C2 := C2.chs ex
  replace C5 := C5.chs ex
  replace C3 := C3.chs ex
  rw [← hg] at V1 H1; have J1 := V1.kk (S := [gi, gr, g2, g5, g3]) (by simp; omega)
  refine wl_ef (ef_storeB (i := 0) rfl rfl rfl (by kernel_rfl) C2 (Nat.le_of_ble_eq_true rfl)) rfl ?_
  rintro _ wS0_2 ⟨rfl, D, cg⟩
  have ex := Chs.one cg
  clear cg
  replace F := F.chs ex
  replace C5 := C5.chs ex
  replace C3 := C3.chs ex
  replace H1 := H1.chs ex
  replace J1 := J1.chs ex
  replace C2 := D; clear D
  replace C2 := C2.congr (cs' := #[.slice A1 n1 c1]) rfl
  refine wl_nil ?_
  refine wq_then_norm (hK1 ?_)
  refine wc_seq ?_; intro K2 hK2
  refine wc_region ?_
  refine wl_y (y_move rfl) rfl ?_
  refine wl_call Try.func133 rfl rfl rfl (iflag_any _ H1) rfl ?_
  rintro e w2 ⟨rfl, H2, ex⟩
  refine ⟨_, rfl, ?_⟩
  rw [← hf] at H2 ⊢
  replace F := F.chs ex
  replace C2 := C2.chs ex
  replace C5 := C5.chs ex
  replace C3 := C3.chs ex
  replace J1 := J1.chs ex
  refine wl_ef (ef_storeB (i := 0) rfl rfl rfl (by kernel_rfl) C5 (Nat.le_of_ble_eq_true rfl)) rfl ?_
  rintro _ wS1_2 ⟨rfl, D, cg⟩
  have ex := Chs.one cg
  clear cg
  replace F := F.chs ex
  replace C2 := C2.chs ex
  replace C3 := C3.chs ex
  replace J1 := J1.chs ex
  replace H2 := H2.chs ex
  replace C5 := D; clear D
  replace C5 := C5.congr (cs' := #[.bool f.1]) rfl
  refine wl_nil ?_
  refine wq_then_norm (hK2 ?_)
  refine wc_seq ?_; intro K3 hK3
  refine wc_region ?_
  refine wl_y (y_load1 rfl Try.underlying4 rfl (C5.get (i := 0) rfl)) rfl ?_
  refine wl_nil ?_
  refine wq_then_norm (hK3 ?_)
  refine wc_cond rfl (fun hc1 => ?_) (fun hc1 => ?_)
  · skip
    refine wc_region ?_
    refine wl_y (y_move rfl) rfl ?_
    have q3 := F.size
    have hy2 : y = vecX f.2 := by rw [hy, if_pos hc1]
    refine wl_call Try.func114 rfl rfl rfl (ivec_any _ H2) rfl ?_
    rintro e w3 ⟨A2, n2, c2, rfl, hc2', V2, H3, ex⟩
    refine ⟨_, rfl, ?_⟩
    replace F := F.chs ex
    replace C2 := C2.chs ex
    replace C5 := C5.chs ex
    replace C3 := C3.chs ex
    replace J1 := J1.chs ex
    rw [← hy2] at V2 H3; have J2 := V2.kk (S := [gi, gr, g2, g5, g3]) (by simp; omega)
    refine wl_ef (ef_storeB (i := 0) rfl rfl rfl (by kernel_rfl) C3 (Nat.le_of_ble_eq_true rfl)) rfl ?_
    rintro _ wS3_2 ⟨rfl, D, cg⟩
    have ex := Chs.one cg
    clear cg
    replace F := F.chs ex
    replace C2 := C2.chs ex
    replace C5 := C5.chs ex
    replace J1 := J1.chs ex
    replace H3 := H3.chs ex
    replace J2 := J2.chs ex
    replace C3 := D; clear D
    replace C3 := C3.congr (cs' := #[.slice A2 n2 c2]) rfl
    refine wl_nil ?_
    refine hret (.inr rfl) ?_
    rw [hX]
    exact ⟨rfl, H3, ⟨⟨A1, n1, c1⟩, ⟨A2, n2, c2⟩, C2, C5, C3, ((J1.bump J1.1 (Nat.le_refl _)).and (J2.bump J2.1 (Nat.le_refl _))).map (fun _ ⟨a, b⟩ => ⟨a.mono (by omega), b.mono (by omega)⟩) |>.mono (by simp)⟩, F.lat hM⟩
  · skip
    refine wc_skip ?_
    refine hret (.inr rfl) ?_
    have hy2 : y = ([], f.2) := by rw [hy, if_neg (by rw [hc1]; decide)]
    rw [hX, hy2]
    exact ⟨rfl, H2, ⟨⟨A1, n1, c1⟩, nilH, C2, C5, C3, (J1.bump J1.1 (Nat.le_refl _)).map (fun _ a => ⟨a.mono (by omega), Fb.nil _ _ _⟩) |>.mono (by simp)⟩, F.lat hM⟩
theorem secOf2_any {g2 g5 g3 : Nat} {h h' : Hd} {j y : List UInt8} {f : Bool} (w : World) (C2 : Blk w g2 22 #[.slice h.A h.n h.c]) (C5 : Blk w g5 4 #[.bool f]) (C3 : Blk w g3 22 #[.slice h'.A h'.n h'.c]) (HA : Bs w h.A h.n j) (HB : Bs w h'.A h'.n y) :
    Calls Try.prog 134 #[.pointer (some ⟨g2, 0, none⟩), .pointer (some ⟨g3, 0, none⟩), .pointer (some ⟨g5, 0, none⟩)] w fun e w' => e = .returned (.bool (decide (okSecX (j, f, y)))) ∧ Ext w w' := by
  have hl := HB.1
  have E := Ext.refl w
  refine vc_enter1 14 Try.func134 rfl rfl rfl rfl ?_
  intro Q hret
  refine wc_seq ?_; intro K1 hK1
  refine wc_region ?_
  refine wl_y (y_assign rfl) rfl ?_
  refine wl_nil ?_
  refine wq_then_norm (hK1 ?_)
  refine wc_seq ?_; intro K2 hK2
  refine wc_region ?_
  refine wl_y (y_load1 rfl Try.underlying22 rfl (C2.get (i := 0) rfl)) rfl ?_
  refine wl_y (y_load1 rfl Try.underlying22 rfl (C3.get (i := 0) rfl)) rfl ?_
  refine wl_call Try.func125 rfl rfl rfl (rightSecrets_any _ (Bs.ext HA E) (Bs.ext HB E)) rfl ?_
  rintro e w1 ⟨rfl, ex⟩
  refine ⟨_, rfl, ?_⟩
  replace E := E.ext ex
  replace C2 := C2.ext ex
  replace C5 := C5.ext ex
  replace C3 := C3.ext ex
  skip
  refine wl_yask (y_move rfl) rfl (fun q0 => ?_) (fun q0 => ?_)
  · skip
    refine wl_gy 7 rfl rfl (y_load1 rfl Try.underlying4 rfl (C5.get (i := 0) rfl)) rfl ?_
    refine wl_gy 7 rfl rfl (y_load1 rfl Try.underlying22 rfl (C3.get (i := 0) rfl)) rfl ?_
    refine wl_gy 7 rfl rfl (y_len_slice rfl Try.underlying22) rfl ?_
    refine wl_gy 7 rfl rfl (y_gtr rfl rfl) rfl ?_
    refine wl_gy 7 rfl rfl (y_eqlb rfl rfl Try.underlying4) rfl ?_
    refine wl_y (y_pickt rfl rfl) rfl ?_
    refine wl_y (y_assign rfl) rfl ?_
    refine wl_nil ?_
    refine wq_then_norm (hK2 ?_)
    refine wc_ret ?_
    refine hret rfl ?_
    have key : decide (okSecX (j, f, y)) = true ↔ f = decide (0 < (h'.n : Int)) := by
      rw [decide_eq_true_iff]
      constructor
      · intro o
        have o2 : f = true ↔ 0 < y.length := o.2
        cases f with
        | true => rw [eq_comm, decide_eq_true_iff]; have := o2.1 rfl; omega
        | false => rw [eq_comm, decide_eq_false_iff_not]; intro h; have := o2.2 (by omega); cases this
      · intro e
        refine ⟨q0, ?_⟩
        show f = true ↔ 0 < y.length
        rw [e, decide_eq_true_iff]; omega
    exact ⟨(ret_bool_of key).symm, E⟩
  · skip
    refine wl_gno 7 rfl rfl rfl rfl ?_
    refine wl_gno 7 rfl rfl rfl rfl ?_
    refine wl_gno 7 rfl rfl rfl rfl ?_
    refine wl_gno 7 rfl rfl rfl rfl ?_
    refine wl_gno 7 rfl rfl rfl rfl ?_
    refine wl_y (y_pickf rfl rfl) rfl ?_
    refine wl_y (y_assign rfl) rfl ?_
    refine wl_nil ?_
    refine wq_then_norm (hK2 ?_)
    refine wc_ret ?_
    refine hret rfl ?_
    exact ⟨ret_no fun h => q0 h.1, E⟩
theorem SecretsOf_any {A : Option Addr} {n c : Nat} {b : List UInt8} (w : World) (HA : Bs w A n b) (hc : n ≤ c) (hn : n ≤ 1048576) :
    Calls Try.prog 60 #[.slice A n c] w fun e w' => ∃ h h' : Hd, e = .returned (.tuple #[.slice h.A h.n h.c, .slice h'.A h'.n h'.c, .int .u8 (((secOf b).2 : Nat) : Int)]) ∧ Bs w' h.A h.n (secOf b).1.1 ∧ Bs w' h'.A h'.n (secOf b).1.2.2 ∧ (secOf b).2 < 256 ∧ Ext w w' := by
  have F := Chs.refl [] w
  have KA : Kp w.heap.size [] (fun w => Bs w A n b) w := Kp.bs HA (by simp)
  have hbl := HA.1
  have hX : secOf b = wholeX ([], false, []) (secX (.ok b)) (decide (okSecX (secX (.ok b)).1)) := rfl
  refine vc_enter11t 18 Try.func60 rfl rfl rfl Try.underlying22 rfl Try.underlying22 rfl rfl ?_
  intro Q hret
  refine wc_seq ?_; intro K1 hK1
  refine wc_region ?_
  refine wl_ef (ef_alloc (Z := #[.slice none 0 0]) (by kernel_rfl)) rfl ?_
  rintro _ wB2 ⟨gB2, rfl, B2, hgB2, ex⟩
  have lB2 := B2.lt; have zB2 := ex.size
  replace F := F.grow ex hgB2
  replace KA := KA.grow ex hgB2
  refine wl_ef (ef_alloc (Z := #[.slice none 0 0]) (by kernel_rfl)) rfl ?_
  rintro _ wB3 ⟨gB3, rfl, B3, hgB3, ex⟩
  have lB3 := B3.lt; have zB3 := ex.size
  have nB2_3 : gB2 < gB3 := Nat.lt_of_lt_of_le B2.lt hgB3
  replace F := F.grow ex hgB3
  replace KA := KA.grow ex hgB3
  replace B2 := B2.grow ex hgB3
  refine wl_y (y_assign rfl) rfl ?_
  refine wl_nil ?_
  refine wq_then_norm (hK1 ?_)
  refine wc_seq ?_; intro K2 hK2
  refine wc_region ?_
  refine wl_ef (ef_alloc (Z := #[.bool false]) (by kernel_rfl)) rfl ?_
  rintro _ wB5 ⟨gB5, rfl, B5, hgB5, ex⟩
  have lB5 := B5.lt; have zB5 := ex.size
  have nB2_5 : gB2 < gB5 := Nat.lt_of_lt_of_le B2.lt hgB5
  have nB3_5 : gB3 < gB5 := Nat.lt_of_lt_of_le B3.lt hgB5
  replace F := F.grow ex hgB5
  replace KA := KA.grow ex hgB5
  replace B2 := B2.grow ex hgB5
  replace B3 := B3.grow ex hgB5
  refine wl_ef (ef_storeB (i := 0) rfl rfl rfl (by kernel_rfl) B5 (Nat.le_of_ble_eq_true rfl)) rfl ?_
  rintro _ wS1_1 ⟨rfl, D, cg⟩
  have ex := Chs.one cg
  clear cg
  replace F := F.chs ex
  replace KA := KA.chs ex
  replace B2 := B2.chs ex
  replace B3 := B3.chs ex
  replace B5 := D; clear D
  refine wl_nil ?_
  refine wq_then_norm (hK2 ?_)
  refine wc_seq ?_; intro K3 hK3
  refine wc_region ?_
  refine wl_y (y_func rfl) rfl ?_
  refine wl_y (y_assign rfl) rfl ?_
  refine wl_nil ?_
  refine wq_then_norm (hK3 ?_)
  refine wc_seq ?_; intro K4 hK4
  refine wc_seq ?_; intro K5 hK5
  refine wc_region ?_
  refine wl_y (y_move rfl) rfl ?_
  refine wl_y (y_move rfl) rfl ?_
  refine wl_y (y_func rfl) rfl ?_
  have q2 := B2.lt; have q3 := B3.lt; have q5 := B5.lt; have q6 := F.size
  replace B5 := B5.congr (cs' := #[.bool false]) rfl
  refine wl_call Try.func116 rfl rfl rfl (read_any (N := w.heap.size) (V := [gB2, gB5, gB3]) (t := (secX (.ok b)).2) (okv := decide (okSecX (secX (.ok b)).1)) (us := [.pointer (some ⟨gB2, 0, none⟩), .pointer (some ⟨gB5, 0, none⟩), .pointer (some ⟨gB3, 0, none⟩)]) (vs := [.pointer (some ⟨gB2, 0, none⟩), .pointer (some ⟨gB3, 0, none⟩), .pointer (some ⟨gB5, 0, none⟩)]) (Ψ := fun gi w => ∃ h h' : Hd, Blk w gB2 22 #[.slice h.A h.n h.c] ∧ Blk w gB5 4 #[.bool (secX (.ok b)).1.2.1] ∧ Blk w gB3 22 #[.slice h'.A h'.n h'.c] ∧ Kp w.heap.size [gi, gB2, gB5, gB3] (fun w => Fb wS1_1.heap.size w h.A h.n (secX (.ok b)).1.1 ∧ Fb wS1_1.heap.size w h'.A h'.n (secX (.ok b)).1.2.2) w) _ (KA.mono (by simp)) hc (by omega) (by simp; omega) Try.func132 rfl rfl Try.func134 rfl rfl (fun w1 gi gr E hi hr H hS => secOf1_any w1 H (B2.ext E) (B5.ext E) (B3.ext E) (by omega) (by omega) (by omega) (by omega) (by omega) (by omega) (by omega) (by omega) (by omega) (by omega) (by omega) (by have := E.size; omega)) (fun gi w1 w2 hi ⟨h, h', a, b', c', K⟩ C => ⟨h, h', a.chs C (by simp; omega), b'.chs C (by simp; omega), c'.chs C (by simp; omega), (K.chs C (by simp)).bump C.size (Nat.le_refl _)⟩) (fun gi w1 ⟨h, h', a, b', c', K⟩ _ => secOf2_any w1 a b' c' K.out.1.1 K.out.2.1)) rfl ?_
  rintro e w5 ⟨rfl, ⟨gi, hgi, h, h', D2, D5, D3, KM⟩, h256, ex⟩
  refine ⟨_, rfl, ?_⟩
  replace F := F.chs ex
  replace KA := KA.chs ex
  have h5 := ex.size; have B2 := D2; have B3 := D3; have B5 := D5; have Ja := KM.out.1.kk (S := [gB2, gB3]) (by simp; omega); have Jb := KM.out.2.kk (S := [gB2, gB3]) (by simp; omega); clear KM
  refine wl_y (y_assign rfl) rfl ?_
  refine wl_nil ?_
  refine wq_then_norm (hK5 ?_)
  refine wc_seq ?_; intro K6 hK6
  refine wc_region ?_
  refine wl_y (y_move rfl) rfl ?_
  refine wl_y (y_neq rfl rfl) rfl ?_
  refine wl_nil ?_
  refine wq_then_norm (hK6 ?_)
  refine wc_dec rfl (fun hc1 => ?_) (fun hc1 => ?_)
  · skip
    refine wc_seq ?_; intro K7 hK7
    have e1 := whole_no (z := (([], false, []) : List UInt8 × Bool × List UInt8)) (p := secX (.ok b)) (ok := decide (okSecX (secX (.ok b)).1)) (by omega)
    refine wc_region ?_
    refine wl_y (y_move rfl) rfl ?_
    refine wl_ef (ef_storeB (i := 0) rfl rfl rfl (by kernel_rfl) B2 (Nat.le_of_ble_eq_true rfl)) rfl ?_
    rintro _ wS5_1 ⟨rfl, D, cg⟩
    have ex := Chs.one cg
    clear cg
    replace F := F.chs ex
    replace KA := KA.chs ex
    replace B3 := B3.chs ex
    replace Ja := Ja.chs ex
    replace Jb := Jb.chs ex
    replace B2 := D; clear D
    refine wl_ef (ef_storeB (i := 0) rfl rfl rfl (by kernel_rfl) B3 (Nat.le_of_ble_eq_true rfl)) rfl ?_
    rintro _ wS5_2 ⟨rfl, D, cg⟩
    have ex := Chs.one cg
    clear cg
    replace F := F.chs ex
    replace KA := KA.chs ex
    replace B2 := B2.chs ex
    replace Ja := Ja.chs ex
    replace Jb := Jb.chs ex
    replace B3 := D; clear D
    refine wl_y (y_assign rfl) rfl ?_
    refine wl_nil ?_
    refine wq_then_norm (hK7 ?_)
    refine wc_ret ?_
    refine wq_then_ret ?_
    refine hret rfl rfl rfl (B2.get (i := 0) rfl) (B3.get (i := 0) rfl) ?_
    rw [hX, e1]; exact ⟨nilH, nilH, rfl, Bs.nil _ _, Bs.nil _ _, (by dsimp only; split; exact h256; split <;> omega), (F.drop (by omega)).drop (by omega) |>.drop (by omega) |>.toExt (by simp)⟩
  · skip
    refine wc_skip ?_
    refine wq_then_norm (hK4 ?_)
    refine wc_seq ?_; intro K8 hK8
    have e1 := whole_yes (z := (([], false, []) : List UInt8 × Bool × List UInt8)) (p := secX (.ok b)) (ok := decide (okSecX (secX (.ok b)).1)) (by omega)
    refine wc_drawJ [(2, [gB2]), (3, [gB3])] (by kernel_rfl) 5 rfl ?_; intro wd6 ex hd6
    replace F := F.ext ex
    replace KA := KA.ext ex
    replace B2 := B2.ext ex
    replace B3 := B3.ext ex
    replace Ja := Ja.ext ex
    replace Jb := Jb.ext ex
    refine wj_y 0 [] rfl (by kernel_rfl) (fun wr (cr : Chs ([]) _ wr) => y_load1 rfl Try.underlying22 rfl ((B2.chs cr).get (i := 0) rfl)) rfl ?_
    refine wj_y 1 [2] rfl (by kernel_rfl) (fun wr (cr : Chs ([gB2]) _ wr) => y_load1 rfl Try.underlying22 rfl ((B3.chs cr).get (i := 0) rfl)) rfl ?_
    refine wj_one 2 (by kernel_rfl) ?_; refine oj_ef rfl (ef_storeB (i := 0) rfl rfl rfl (by kernel_rfl) B2 (Nat.le_of_ble_eq_true rfl)) rfl ?_
    rintro _ wS6_2 ⟨rfl, D, cg⟩
    have ex := Chs.one cg
    clear cg
    refine ⟨ex, ?_⟩
    replace F := F.chs ex
    replace KA := KA.chs ex
    replace B3 := B3.chs ex
    replace Ja := Ja.chs ex
    replace Jb := Jb.chs ex
    replace B2 := D; clear D
    refine wj_one 3 (by kernel_rfl) ?_; refine oj_ef rfl (ef_storeB (i := 0) rfl rfl rfl (by kernel_rfl) B3 (Nat.le_of_ble_eq_true rfl)) rfl ?_
    rintro _ wS6_3 ⟨rfl, D, cg⟩
    have ex := Chs.one cg
    clear cg
    refine ⟨ex, ?_⟩
    replace F := F.chs ex
    replace KA := KA.chs ex
    replace B2 := B2.chs ex
    replace Ja := Ja.chs ex
    replace Jb := Jb.chs ex
    replace B3 := D; clear D
    refine wj_y 4 [] rfl (by kernel_rfl) (fun wr (cr : Chs ([]) _ wr) => y_assign rfl) rfl ?_
    refine wj_done (by kernel_rfl) ?_
    refine wq_nop ?_
    refine wq_then_norm (hK8 ?_)
    refine wc_ret ?_
    refine hret rfl rfl rfl (B2.get (i := 0) rfl) (B3.get (i := 0) rfl) ?_
    rw [hX, e1]; exact ⟨h, h', rfl, Ja.out.1, Jb.out.1, (by show 0 < 256; omega), (F.drop (by omega)).drop (by omega) |>.drop (by omega) |>.toExt (by simp)⟩
theorem rWelBytes_any {cs : Array Value} {x : Wel} (w : World) (H : WelAt w cs x) (hs : x.Small) :
    Calls Try.prog 56 #[.agg cs] w fun e w' => ∃ A' k c', e = .returned (.slice A' k c') ∧ Row w' w.heap.size 5 A' k c' ((welB x).map bv) ∧ k ≤ 40000 ∧ Ext w w' := by
  have hsm : ∀ y ∈ x.guests, (gstB y).length ≤ 420 := fun y hy => by
    obtain ⟨k1, k2, k3⟩ := hs.2.1 y hy
    have := vec_le y.ref; have := vec_le y.enc; have := vec_le y.box
    unfold gstB; simp only [List.length_append]; omega
  obtain ⟨h0, h1, rfl, a0, a1⟩ := H
  have l0 := a0.1; have l1 := a1.1; have l2 := hs.1; have l3 := hs.2.2
  have E := Ext.refl w
  refine vc_enter1 49 Try.func56 rfl rfl rfl rfl ?_
  intro Q hret
  refine wc_seq ?_; intro K1 hK1
  refine wc_region ?_
  refine wl_ef (ef_box rfl rfl) rfl ?_
  rintro _ wB1 ⟨gB1, rfl, B1, hgB1, ex⟩
  have lB1 := B1.lt; have zB1 := ex.size
  replace E := E.ext ex
  refine wl_y (y_assign rfl) rfl ?_
  refine wl_nil ?_
  refine wq_then_norm (hK1 ?_)
  refine wc_seq ?_; intro K2 hK2
  refine wc_region ?_
  refine wl_y (y_assign rfl) rfl ?_
  refine wl_nil ?_
  refine wq_then_norm (hK2 ?_)
  refine wc_seq ?_; intro K3 hK3
  refine wc_seq ?_; intro K4 hK4
  have X := Ext.refl wB1; have Bo := B1
  refine wc_region ?_
  refine wl_y (y_assign rfl) rfl ?_
  refine wl_nil ?_
  refine wq_then_norm (hK4 ?_)
  refine wc_block ?_
  refine wc_loop (fun n' L wr => ∃ (i : Nat) (A : Option Addr) (n k : Nat) (xs : List UInt8), L = [(1, .pointer (some ⟨gB1, 0, none⟩)), (3, .slice A n k), (4, .int .i64 (i : Int))] ∧ n' = h0.n - i ∧ (i ≤ h0.n ∧ Ext w wr ∧ Ext wB1 wr ∧ Bs wr A n xs ∧ xs = (x.guests.take i).flatMap gstB)) _ _ ⟨0, none, 0, 0, [], rfl, rfl, by omega, E, X, Bs.nil _ _, by simp⟩ ⟨rfl, rfl, (by first | rfl | exact congrArg some (int_val (by omega))), trivial⟩ ?_
  rintro KL1 n' L wr ⟨i, A, n, k, xs, rfl, rfl, hi, E, X, S, hxs⟩ hL1
  have B1 := Bo.ext X
  refine wc_seq ?_; intro K5 hK5
  refine wc_seq ?_; intro K6 hK6
  refine wc_region ?_
  refine wl_y (y_move rfl) rfl ?_
  refine wl_y (y_fieldAddr (o := 0) (s := 1) (off := 0) (o' := 0) rfl Try.underlying80 rfl (by kernel_rfl) rfl rfl) rfl ?_
  refine wl_y (y_load1 rfl Try.underlying78 rfl (B1.get (i := 0) rfl)) rfl ?_
  refine wl_y (y_len_slice rfl Try.underlying78) rfl ?_
  refine wl_y (y_lss rfl rfl) rfl ?_
  refine wl_nil ?_
  refine wq_then_norm (hK6 ?_)
  refine wc_dec rfl (fun hc1 => ?_) (fun hc1 => ?_)
  · skip
    refine wc_skip ?_
    refine wq_then_norm (hK5 ?_)
    refine wc_seq ?_; intro K7 hK7
    refine wc_block ?_
    obtain ⟨b1, o1, cs1, y, e1, _, hx, hcz, hR, hcx⟩ := a0.get2 (by omega) (i := i) (by omega)
    obtain ⟨f0, f1, f2, rfl, v0, v1, v2⟩ := hR
    have fy := hs.2.1 y (ix_mem hx)
    obtain ⟨y1, y2, y3⟩ := fy
    have m0 := v0.1; have m1 := v1.1; have m2 := v2.1
    have hxl : xs.length ≤ i * 420 := by rw [hxs]; exact flatMap_tk_le i hsm
    have hnx := S.1
    have z0 := lsz_le f0.n; have z1 := lsz_le f1.n; have z2 := lsz_le f2.n
    refine wc_draw (by kernel_rfl) 27 rfl ?_; intro wd5 ex hd5
    replace E := E.ext ex
    replace X := X.ext ex
    replace S := S.ext ex
    replace B1 := B1.ext ex
    refine wm_y 0 rfl (by kernel_rfl) (y_move rfl) rfl ?_
    refine wm_y 1 rfl (by kernel_rfl) (y_fieldAddr (o := 0) (s := 1) (off := 0) (o' := 0) rfl Try.underlying80 rfl (by kernel_rfl) rfl rfl) rfl ?_
    refine wm_y 2 rfl (by kernel_rfl) (y_load1 rfl Try.underlying78 rfl (B1.get (i := 0) rfl)) rfl ?_
    refine wm_y 3 rfl (by kernel_rfl) (y_move rfl) rfl ?_
    refine wm_y 4 rfl (by kernel_rfl) (y_ixsE (s := 3) (j := i) e1 rfl rfl Try.underlying78 (by kernel_rfl) rfl (by omega)) rfl ?_
    refine wm_y 5 rfl (by kernel_rfl) (y_fieldAddr (o := 0) (s := 1) rfl Try.underlying142 rfl (by kernel_rfl) rfl rfl) rfl ?_
    refine wm_y 6 rfl (by kernel_rfl) (y_load1 rfl Try.underlying22 rfl (E.cellE (hcx 0 _ rfl))) rfl ?_
    refine wm_y 8 rfl (by kernel_rfl) (y_fieldAddr (o := 0) (s := 1) (off := 0) (o' := 0) rfl Try.underlying80 rfl (by kernel_rfl) rfl rfl) rfl ?_
    refine wm_y 9 rfl (by kernel_rfl) (y_load1 rfl Try.underlying78 rfl (B1.get (i := 0) rfl)) rfl ?_
    refine wm_y 10 rfl (by kernel_rfl) (y_move rfl) rfl ?_
    refine wm_y 11 rfl (by kernel_rfl) (y_ixsE (s := 3) (j := i) e1 rfl rfl Try.underlying78 (by kernel_rfl) rfl (by omega)) rfl ?_
    refine wm_y 12 rfl (by kernel_rfl) (y_fieldAddr (o := 1) (s := 2) rfl Try.underlying142 rfl (by kernel_rfl) rfl rfl) rfl ?_
    refine wm_y 13 rfl (by kernel_rfl) (y_fieldAddr (o := 0) (s := 1) rfl Try.underlying111 rfl (by kernel_rfl) rfl rfl) rfl ?_
    refine wm_y 14 rfl (by kernel_rfl) (y_load1 rfl Try.underlying22 rfl (E.cellE (hcx 1 _ rfl))) rfl ?_
    refine wm_y 16 rfl (by kernel_rfl) (y_fieldAddr (o := 0) (s := 1) (off := 0) (o' := 0) rfl Try.underlying80 rfl (by kernel_rfl) rfl rfl) rfl ?_
    refine wm_y 17 rfl (by kernel_rfl) (y_load1 rfl Try.underlying78 rfl (B1.get (i := 0) rfl)) rfl ?_
    refine wm_y 18 rfl (by kernel_rfl) (y_move rfl) rfl ?_
    refine wm_y 19 rfl (by kernel_rfl) (y_ixsE (s := 3) (j := i) e1 rfl rfl Try.underlying78 (by kernel_rfl) rfl (by omega)) rfl ?_
    refine wm_y 20 rfl (by kernel_rfl) (y_fieldAddr (o := 1) (s := 2) rfl Try.underlying142 rfl (by kernel_rfl) rfl rfl) rfl ?_
    refine wm_y 21 rfl (by kernel_rfl) (y_fieldAddr (o := 1) (s := 1) rfl Try.underlying111 rfl (by kernel_rfl) rfl rfl) rfl ?_
    refine wm_y 22 rfl (by kernel_rfl) (y_load1 rfl Try.underlying22 rfl (E.cellE (hcx 2 _ rfl))) rfl ?_
    refine wm_one 7 (by kernel_rfl) ?_; refine om_call rfl Try.func82 rfl rfl rfl (vec20_any f0.A f0.n f0.c _ _ (Bs.ext v0 E) (by omega)) rfl ?_
    rintro e w4 ⟨A4, k4, c4, rfl, R4, hk4, ex⟩
    refine ⟨_, rfl, .inr ex, ?_⟩
    replace E := E.ext ex
    replace X := X.ext ex
    replace S := S.ext ex
    replace B1 := B1.ext ex
    have H4 := R4.bs
    refine wm_one 15 (by kernel_rfl) ?_; refine om_call rfl Try.func82 rfl rfl rfl (vec20_any f1.A f1.n f1.c _ _ (Bs.ext v1 E) (by omega)) rfl ?_
    rintro e w5 ⟨A5, k5, c5, rfl, R5, hk5, ex⟩
    refine ⟨_, rfl, .inr ex, ?_⟩
    replace E := E.ext ex
    replace X := X.ext ex
    replace S := S.ext ex
    replace B1 := B1.ext ex
    replace H4 := H4.ext ex
    have H5 := R5.bs
    refine wm_one 23 (by kernel_rfl) ?_; refine om_call rfl Try.func82 rfl rfl rfl (vec20_any f2.A f2.n f2.c _ _ (Bs.ext v2 E) (by omega)) rfl ?_
    rintro e w6 ⟨A6, k6, c6, rfl, R6, hk6, ex⟩
    refine ⟨_, rfl, .inr ex, ?_⟩
    replace E := E.ext ex
    replace X := X.ext ex
    replace S := S.ext ex
    replace B1 := B1.ext ex
    replace H4 := H4.ext ex
    replace H5 := H5.ext ex
    have H6 := R6.bs
    refine wm_one 24 (by kernel_rfl) ?_; refine om_call rfl Try.func81 rfl rfl rfl (three20_any A4 A5 A6 k4 c4 k5 c5 k6 c6 _ _ _ _ H4 (by omega) H5 (by omega) H6 (by omega)) rfl ?_
    rintro e w7 ⟨A7, c7, rfl, R7, ex⟩
    refine ⟨_, rfl, .inr ex, ?_⟩
    replace E := E.ext ex
    replace X := X.ext ex
    replace S := S.ext ex
    replace B1 := B1.ext ex
    replace H4 := H4.ext ex
    replace H5 := H5.ext ex
    replace H6 := H6.ext ex
    have H7 := R7.bs
    refine wm_one 25 (by kernel_rfl) ?_; refine om_call rfl Try.func76 rfl rfl rfl (join20_any A A7 n k _ c7 _ _ _ S (by omega) H7 (by omega)) rfl ?_
    rintro e w8 ⟨A8, c8, rfl, R8, ex⟩
    refine ⟨_, rfl, .inr ex, ?_⟩
    replace E := E.ext ex
    replace X := X.ext ex
    replace S := S.ext ex
    replace B1 := B1.ext ex
    replace H4 := H4.ext ex
    replace H5 := H5.ext ex
    replace H6 := H6.ext ex
    replace H7 := H7.ext ex
    skip
    refine wm_y 26 rfl (by kernel_rfl) (y_assign rfl) rfl ?_
    refine wm_done (by kernel_rfl) ?_
    refine wq_nop ?_
    refine wq_blk_norm ?_
    refine wq_then_norm (hK7 ?_)
    refine wc_region ?_
    refine wl_y (y_move rfl) rfl ?_
    refine wl_y (y_add rfl rfl (i64_ok (by omega) (by omega))) rfl ?_
    refine wl_y (y_assign rfl) rfl ?_
    refine wl_nil ?_
    refine wq_then_norm ?_
    refine hL1 _ _ ⟨i + 1, A8, _, c8, xs ++ (vec y.ref ++ vec y.enc ++ vec y.box), rfl, rfl, by omega, E, X, R8.bs, by rw [flatMap_take hx, ← hxs]; unfold gstB; rfl⟩ (by omega) ⟨rfl, rfl, (by first | rfl | exact congrArg some (int_val (by omega))), trivial⟩
  · skip
    refine wc_exit ?_
    refine wq_then_exit ?_
    refine wq_then_exit ?_
    refine wq_blk_hit ?_
    refine wq_then_norm (hK3 ?_)
    refine wc_seq ?_; intro K8 hK8
    have hxf : xs = x.guests.flatMap gstB := by rw [hxs, flatMap_full (by omega)]
    have hxl : xs.length ≤ i * 420 := by rw [hxs]; exact flatMap_tk_le i hsm
    have hnx := S.1
    have z0 := lsz_le n; have z1 := lsz_le h1.n
    refine wc_draw (by kernel_rfl) 12 rfl ?_; intro wd6 ex hd6
    replace E := E.ext ex
    replace X := X.ext ex
    replace S := S.ext ex
    replace B1 := B1.ext ex
    refine wm_y 4 rfl (by kernel_rfl) (y_move rfl) rfl ?_
    refine wm_y 6 rfl (by kernel_rfl) (y_fieldAddr (o := 1) (s := 1) (off := 0) (o' := 1) rfl Try.underlying80 rfl (by kernel_rfl) rfl rfl) rfl ?_
    refine wm_y 7 rfl (by kernel_rfl) (y_load1 rfl Try.underlying22 rfl (B1.get (i := 1) rfl)) rfl ?_
    refine wm_one 0 (by kernel_rfl) ?_; refine om_call rfl Try.func96 rfl rfl rfl (two20_any 1 _ (by omega)) rfl ?_
    rintro e w2 ⟨A2, c2, rfl, R2, ex⟩
    refine ⟨_, rfl, .inr ex, ?_⟩
    replace E := E.ext ex
    replace X := X.ext ex
    replace S := S.ext ex
    replace B1 := B1.ext ex
    have H2 := R2.bs
    refine wm_one 1 (by kernel_rfl) ?_; refine om_call rfl Try.func96 rfl rfl rfl (two20_any 3 _ (by omega)) rfl ?_
    rintro e w3 ⟨A3, c3, rfl, R3, ex⟩
    refine ⟨_, rfl, .inr ex, ?_⟩
    replace E := E.ext ex
    replace X := X.ext ex
    replace S := S.ext ex
    replace B1 := B1.ext ex
    replace H2 := H2.ext ex
    have H3 := R3.bs
    refine wm_one 2 (by kernel_rfl) ?_; refine om_call rfl Try.func96 rfl rfl rfl (two20_any 1 _ (by omega)) rfl ?_
    rintro e w4 ⟨A4, c4, rfl, R4, ex⟩
    refine ⟨_, rfl, .inr ex, ?_⟩
    replace E := E.ext ex
    replace X := X.ext ex
    replace S := S.ext ex
    replace B1 := B1.ext ex
    replace H2 := H2.ext ex
    replace H3 := H3.ext ex
    have H4 := R4.bs
    refine wm_one 3 (by kernel_rfl) ?_; refine om_call rfl Try.func81 rfl rfl rfl (three20_any A2 A3 A4 2 c2 2 c3 2 c4 _ _ _ _ H2 (by omega) H3 (by omega) H4 (by omega)) rfl ?_
    rintro e w5 ⟨A5, c5, rfl, R5, ex⟩
    refine ⟨_, rfl, .inr ex, ?_⟩
    replace E := E.ext ex
    replace X := X.ext ex
    replace S := S.ext ex
    replace B1 := B1.ext ex
    replace H2 := H2.ext ex
    replace H3 := H3.ext ex
    replace H4 := H4.ext ex
    have H5 := R5.bs
    refine wm_one 5 (by kernel_rfl) ?_; refine om_call rfl Try.func82 rfl rfl rfl (vec20_any A n k _ _ S (by omega)) rfl ?_
    rintro e w6 ⟨A6, k6, c6, rfl, R6, hk6, ex⟩
    refine ⟨_, rfl, .inr ex, ?_⟩
    replace E := E.ext ex
    replace X := X.ext ex
    replace S := S.ext ex
    replace B1 := B1.ext ex
    replace H2 := H2.ext ex
    replace H3 := H3.ext ex
    replace H4 := H4.ext ex
    replace H5 := H5.ext ex
    have H6 := R6.bs
    refine wm_one 8 (by kernel_rfl) ?_; refine om_call rfl Try.func82 rfl rfl rfl (vec20_any h1.A h1.n h1.c _ _ (Bs.ext a1 E) (by omega)) rfl ?_
    rintro e w7 ⟨A7, k7, c7, rfl, R7, hk7, ex⟩
    refine ⟨_, rfl, .inr ex, ?_⟩
    replace E := E.ext ex
    replace X := X.ext ex
    replace S := S.ext ex
    replace B1 := B1.ext ex
    replace H2 := H2.ext ex
    replace H3 := H3.ext ex
    replace H4 := H4.ext ex
    replace H5 := H5.ext ex
    replace H6 := H6.ext ex
    have H7 := R7.bs
    refine wm_one 9 (by kernel_rfl) ?_; refine om_call rfl Try.func76 rfl rfl rfl (join20_any A6 A7 k6 c6 k7 c7 _ _ _ H6 (by omega) H7 (by omega)) rfl ?_
    rintro e w8 ⟨A8, c8, rfl, R8, ex⟩
    refine ⟨_, rfl, .inr ex, ?_⟩
    replace E := E.ext ex
    replace X := X.ext ex
    replace S := S.ext ex
    replace B1 := B1.ext ex
    replace H2 := H2.ext ex
    replace H3 := H3.ext ex
    replace H4 := H4.ext ex
    replace H5 := H5.ext ex
    replace H6 := H6.ext ex
    replace H7 := H7.ext ex
    have H8 := R8.bs
    have hz8 := E.size
    refine wm_one 10 (by kernel_rfl) ?_; refine om_call rfl Try.func76 rfl rfl rfl (join20_any A5 A8 _ c5 _ c8 _ _ _ H5 (by omega) H8 (by omega)) rfl ?_
    rintro e w9 ⟨A9, c9, rfl, R9, ex⟩
    refine ⟨_, rfl, .inr ex, ?_⟩
    replace E := E.ext ex
    replace X := X.ext ex
    replace S := S.ext ex
    replace B1 := B1.ext ex
    replace H2 := H2.ext ex
    replace H3 := H3.ext ex
    replace H4 := H4.ext ex
    replace H5 := H5.ext ex
    replace H6 := H6.ext ex
    replace H7 := H7.ext ex
    replace H8 := H8.ext ex
    skip
    refine wm_y 11 rfl (by kernel_rfl) (y_assign rfl) rfl ?_
    refine wm_done (by kernel_rfl) ?_
    refine wq_nop ?_
    refine wq_then_norm (hK8 ?_)
    refine wc_ret ?_
    refine hret rfl ?_
    exact ⟨A9, _, c9, rfl, (R9.lower hz8).congr rfl (by unfold welB; rw [← hxf]; simp), by omega, E⟩
end Go.Proofs.Ytpgalbgonmclaaa
