/- The reference's trail: all texts that a tag hashes, what it hands back. -/
import Derived.Test.YtopbahbhldgbbaaSecG
import Derived.Test.YtopbahbhldgbbaaSecE
namespace Go.Proofs.Ytopbahbhldgbbaa
open Go.RowKit
attribute [local irreducible] Y Ef WL WC WK WQ WM OpM WN WF OpN
/-- A row of texts, each a row of its own. -/
def Rss (w : World) (base : Nat) (A : Option Addr) (n c : Nat) (xss : List (List UInt8)) : Prop :=
  xss.length = n ∧ ∃ vs, Row w base 24 A n c vs ∧ ∀ i, i < n → ∃ B m d, vs[i]? = some (.slice B m d) ∧ Row w base 5 B m d ((xss.getD i []).map bv) ∧ Dj A B
theorem Rss.ext {w w' : World} {base : Nat} {A : Option Addr} {n c : Nat} {xss : List (List UInt8)} (h : Rss w base A n c xss) (k : Ext w w') : Rss w' base A n c xss := by
  obtain ⟨h1, vs, h2, h3⟩ := h
  exact ⟨h1, vs, h2.ext k, fun i hi => by obtain ⟨B, m, d, h4, h5, h6⟩ := h3 i hi; exact ⟨B, m, d, h4, h5.ext k, h6⟩⟩
theorem Rss.bss {w : World} {base : Nat} {A : Option Addr} {n c : Nat} {xss : List (List UInt8)} (h : Rss w base A n c xss) : Bss w A n xss := by
  obtain ⟨h1, vs, h2, h3⟩ := h
  exact ⟨h1, vs, Row.len h2, Row.at h2, fun i hi => by obtain ⟨B, m, d, h4, h5, h6⟩ := h3 i hi; exact ⟨B, m, d, h4, h5.bs⟩⟩
theorem Rss.lower {w : World} {base b : Nat} {A : Option Addr} {n c : Nat} {xss : List (List UInt8)} (h : Rss w base A n c xss) (hb : b ≤ base) : Rss w b A n c xss := by
  obtain ⟨h1, vs, h2, h3⟩ := h
  exact ⟨h1, vs, h2.lower hb, fun i hi => by obtain ⟨B, m, d, h4, h5, h6⟩ := h3 i hi; exact ⟨B, m, d, h4, h5.lower hb, h6⟩⟩
theorem Rss.lt {w : World} {base g o : Nat} {s : Option Nat} {n c : Nat} {xss : List (List UInt8)} (h : Rss w base (some ⟨g, o, s⟩) n c xss) : g < w.heap.size := by
  obtain ⟨h1, vs, h2, h3⟩ := h
  have := h2.none_s _ _ _ rfl
  subst this
  exact (Row.lt h2).2
theorem rss_two {w : World} {g base : Nat} {A A' : Option Addr} {n c n' c' : Nat} {xs xs' : List UInt8} (B : Blk w g 24 ([.slice A n c, .slice A' n' c'] : List Value).toArray) (hb : base ≤ g) (h : Row w base 5 A n c (xs.map bv)) (h' : Row w base 5 A' n' c' (xs'.map bv)) (hd : Dj (some ⟨g, 0, none⟩) A) (hd' : Dj (some ⟨g, 0, none⟩) A') :
    Rss w base (some ⟨g, 0, none⟩) 2 2 [xs, xs'] :=
  ⟨rfl, [.slice A n c, .slice A' n' c'], Row.new B hb rfl (by unfold maxLen; omega), fun i hi => by
    match i, hi with
    | 0, _ => exact ⟨A, n, c, rfl, h, hd⟩
    | 1, _ => exact ⟨A', n', c', rfl, h', hd'⟩⟩
theorem dj_newR {w : World} {base g : Nat} {A : Option Addr} {n c : Nat} {xs : List UInt8} (h : Row w base 5 A n c (xs.map bv)) (hg : w.heap.size ≤ g) : Dj (some ⟨g, 0, none⟩) A := fun b o b' o' h1 h2 e => by
  injection h1 with h1
  injection h1 with h1 _ _
  subst h1; subst h2; subst e
  have := (Row.lt h).2
  omega
theorem ef_appS {L : List (Nat × Value)} {w : World} {ty : TypeId} {x y : Operand} {A B : Option Addr} {n m c d base base2 : Nat} {xs ys : List (List UInt8)} (hx : ev L x = some (.slice A n c)) (hy : ev L y = some (.slice B m d)) (h : Rss w base A n c xs) (k : Rss w base2 B m d ys) (hA : ∀ g o s, A = some ⟨g, o, s⟩ → g < base2) (hb : base ≤ base2)
    (hn : n ≤ 1000) (hm : m ≤ 1000) (hbase : base ≤ w.heap.size) : Ef Try.prog L w (.call { callee := .builtin .append, args := #[x, y], argTypes := #[22, 22] }) ty fun v w' => ∃ A' c', v = .slice A' (n + m) c' ∧ Rss w' base A' (n + m) c' (xs ++ ys) ∧ Below base w w' := by
  obtain ⟨hl, vs, hr, he⟩ := h
  obtain ⟨kl, us, kr, ke⟩ := k
  have hone : ∀ u ∈ us, u.oneCell' = true := fun u hu => by
    obtain ⟨i, hi, rfl⟩ := List.getElem_of_mem hu
    obtain ⟨Bi, mi, di, k1, _⟩ := ke i (by rw [← Row.len kr]; exact hi)
    rw [List.getElem?_eq_getElem hi] at k1
    injection k1 with k1
    rw [k1]; rfl
  refine (ef_app hx hy eltS hr (Row.at kr) (Row.len kr) hone (by omega) (by omega) hbase).mono ?_
  rintro v w' ⟨A', c', rfl, R', be, gr, hl'⟩
  have hvl := Row.len hr
  refine ⟨A', c', rfl, ⟨by rw [List.length_append]; omega, vs ++ us, R', fun i hi => ?_⟩, be⟩
  by_cases hin : i < n
  · obtain ⟨Bi, mi, di, h1, h2, h3⟩ := he i hin
    have q := Row.app h2 h3 gr hl' hr.none_s
    refine ⟨Bi, mi, di, by rw [List.getElem?_append_left (by omega)]; exact h1, ?_, q.2⟩
    rw [List.getD_eq_getElem?_getD, List.getElem?_append_left (by omega), ← List.getD_eq_getElem?_getD]; exact q.1
  · obtain ⟨Bi, mi, di, h1, h2, _⟩ := ke (i - n) (by omega)
    have h3 : Dj A Bi := fun b o b' o' e1 e2 e => by
      subst e1; subst e2; subst e
      have q1 := hA _ _ _ rfl
      have q2 := (Row.lt h2).1
      omega
    have q := Row.app (h2.lower hb) h3 gr hl' hr.none_s
    refine ⟨Bi, mi, di, by rw [List.getElem?_append_right (by omega), hvl]; exact h1, ?_, q.2⟩
    rw [List.getD_eq_getElem?_getD, List.getElem?_append_right (by omega), hl, ← List.getD_eq_getElem?_getD]; exact q.1
theorem info_any (s : ByteArray) (B : Option Addr) (m d : Nat) (cs : List UInt8) (w : World) (hs : s.size ≤ 1048576) (HB : Bs w B m cs) (hm : m ≤ 1048576) :
    Calls Try.prog 58 #[.string s, .slice B m d] w fun e w' => ∃ A' k' c', e = .returned (.slice A' k' c') ∧ Row w' w.heap.size 5 A' k' c' ((info1 s.data.toList cs).map bv) ∧ k' ≤ 3000000 ∧ Ext w w' := by
  have E := Ext.refl w
  have hl1 := Wire.lsz_le (8 + s.size); have hl2 := Wire.lsz_le m
  have hcs : (⟨#[77, 76, 83, 32, 49, 46, 48, 32]⟩ : ByteArray).size = 8 := rfl
  refine vc_enter1 18 Try.func58 rfl rfl rfl rfl ?_
  intro Q hret
  refine wc_seq ?_; intro K1 hK1
  refine wc_region ?_
  refine wl_y (y_assign rfl) rfl ?_
  refine wl_nil ?_
  refine wq_then_norm (hK1 ?_)
  refine wc_seq ?_; intro K2 hK2
  refine wc_region ?_
  refine wl_call Try.func65 rfl rfl rfl (refNum_any 2 32 _ (by omega) (by omega)) rfl ?_
  rintro e w1 ⟨A1, c1, rfl, R1, ex⟩
  refine ⟨_, rfl, ?_⟩
  replace HB := HB.ext ex
  replace E := E.ext ex
  skip
  refine wl_y (y_move rfl) rfl ?_
  refine wl_y (y_strcat rfl rfl (by omega)) rfl ?_
  refine wl_ef (ef_str rfl Try.underlying9 Try.underlying24 Try.underlying5) rfl ?_
  rintro _ w2 ⟨g2, c2, rfl, H2, hg2, ex⟩
  replace HB := HB.ext ex
  replace E := E.ext ex
  replace R1 := R1.ext ex
  rw [mls_cat, mls_size] at H2
  refine wl_call Try.func63 rfl rfl rfl (refVec_any _ _ c2 _ _ (by rw [mls_size]; exact H2) (by rw [mls_size]; omega)) rfl ?_
  rintro e w3 ⟨A3, k3, c3, rfl, R3, hk3, ex⟩
  refine ⟨_, rfl, ?_⟩
  replace HB := HB.ext ex
  replace E := E.ext ex
  replace R1 := R1.ext ex
  have H3 := R3.bs; rw [mls_size] at hk3
  refine wl_call Try.func61 rfl rfl rfl (join23_any A1 A3 2 c1 k3 c3 _ _ _ R1.bs (by omega) H3 (by omega)) rfl ?_
  rintro e w4 ⟨A4, c4, rfl, R4, ex⟩
  refine ⟨_, rfl, ?_⟩
  replace HB := HB.ext ex
  replace E := E.ext ex
  replace R1 := R1.ext ex
  replace H3 := H3.ext ex
  have H4 := R4.bs
  refine wl_y (y_assign rfl) rfl ?_
  refine wl_nil ?_
  refine wq_then_norm (hK2 ?_)
  refine wc_seq ?_; intro K3 hK3
  refine wc_region ?_
  refine wl_y (y_move rfl) rfl ?_
  refine wl_y (y_move rfl) rfl ?_
  refine wl_call Try.func63 rfl rfl rfl (refVec_any B m d cs _ HB (by omega)) rfl ?_
  rintro e w5 ⟨A5, k5, c5, rfl, R5, hk5, ex⟩
  refine ⟨_, rfl, ?_⟩
  replace HB := HB.ext ex
  replace E := E.ext ex
  replace R1 := R1.ext ex
  replace H3 := H3.ext ex
  replace H4 := H4.ext ex
  have H5 := R5.bs
  refine wl_call Try.func61 rfl rfl rfl (join23_any A4 A5 _ c4 k5 c5 _ _ _ H4 (by omega) H5 (by omega)) rfl ?_
  rintro e w6 ⟨A6, c6, rfl, R6, ex⟩
  refine ⟨_, rfl, ?_⟩
  replace HB := HB.ext ex
  replace E := E.ext ex
  replace R1 := R1.ext ex
  replace H3 := H3.ext ex
  replace H4 := H4.ext ex
  replace H5 := H5.ext ex
  have H6 := R6.bs
  refine wl_ef (ef_lit (z := .int .u8 0) Try.underlying24 (by kernel_rfl) rfl rfl rfl rfl rfl) rfl ?_
  rintro _ w7 ⟨g7, rfl, B7, hg7, ex⟩
  replace HB := HB.ext ex
  replace E := E.ext ex
  replace R1 := R1.ext ex
  replace H3 := H3.ext ex
  replace H4 := H4.ext ex
  replace H5 := H5.ext ex
  replace H6 := H6.ext ex
  skip
  have hsE := E.size
  refine wl_call Try.func61 rfl rfl rfl (join23_any A6 _ _ c6 1 1 _ _ _ H6 (by omega) (bs_blk' (xs := [(1 : UInt8)]) (B7.congr (by rfl)) rfl) (by omega)) rfl ?_
  rintro e w8 ⟨A8, c8, rfl, R8, ex⟩
  refine ⟨_, rfl, ?_⟩
  replace HB := HB.ext ex
  replace E := E.ext ex
  replace R1 := R1.ext ex
  replace H3 := H3.ext ex
  replace H4 := H4.ext ex
  replace H5 := H5.ext ex
  replace H6 := H6.ext ex
  replace R8 := R8.lower hsE
  refine wl_y (y_assign rfl) rfl ?_
  refine wl_nil ?_
  refine wq_then_norm (hK3 ?_)
  refine wc_ret ?_
  refine hret rfl ?_
  exact ⟨A8, _, c8, rfl, R8, by omega, E⟩
theorem hashed_any (A B : Option Addr) (n c m d : Nat) (xs ys : List UInt8) (w : World) (HA : Bs w A n xs) (hn : n ≤ 64) (HB : Bs w B m ys) (hm : m ≤ 34184372088832) :
    Calls Try.prog 57 #[.slice A n c, .slice B m d] w fun e w' => ∃ A' c', e = .returned (.slice A' 2 c') ∧ Rss w' w.heap.size A' 2 c' (hashedL xs ys) ∧ Ext w w' := by
  obtain ⟨X, hX⟩ : ∃ X, X = Mac.k64 xs := ⟨_, rfl⟩
  have hXl : X.length = 64 := by rw [hX]; exact Mac.k64_length _
  have hx0 := HA.1
  have HA0 := HA; have HB0 := HB
  have hks : ∀ k, X.getD k 0 = xs.getD k 0 := fun k => by rw [hX]; exact k64_get _ _ (by rw [if_neg (by omega)]) k
  refine vc_enter1 40 Try.func57 rfl rfl rfl rfl ?_
  intro Q hret
  refine wc_seq ?_; intro K1 hK1
  refine wc_region ?_
  refine wl_y (y_assign rfl) rfl ?_
  refine wl_nil ?_
  refine wq_then_norm (hK1 ?_)
  refine wc_seq ?_; intro K2 hK2
  refine wc_region ?_
  refine wl_y (y_assign rfl) rfl ?_
  refine wl_y (y_assign rfl) rfl ?_
  refine wl_nil ?_
  refine wq_then_norm (hK2 ?_)
  refine wc_seq ?_; intro K3 hK3
  refine wc_seq ?_; intro K4 hK4
  refine wc_region ?_
  refine wl_y (y_assign rfl) rfl ?_
  refine wl_nil ?_
  refine wq_then_norm (hK4 ?_)
  refine wc_block ?_
  refine wc_loop (fun n' L wr => ∃ (k c5 c6 : Nat) (A5 A6 : Option Addr), L = [(0, .slice A n c), (1, .slice B m d), (5, .slice A5 k c5), (6, .slice A6 k c6), (7, .int .i64 (k : Int))] ∧ n' = 64 - k ∧ (k ≤ 64 ∧ Ext w wr ∧ Row wr w.heap.size 5 A5 k c5 (((X.take k).map (· ^^^ 54)).map bv) ∧ Row wr w.heap.size 5 A6 k c6 (((X.take k).map (· ^^^ 92)).map bv) ∧ Dj A5 A6)) _ _ ⟨0, 0, 0, none, none, rfl, rfl, by omega, Ext.refl _, Row.empty _ _ _, Row.empty _ _ _, Dj.none_l _⟩ ⟨rfl, rfl, rfl, rfl, (by first | rfl | exact congrArg some (int_val (by omega))), trivial⟩ ?_
  rintro KL1 n' L wr ⟨k, c5, c6, A5, A6, rfl, rfl, hk, F, R5, R6, hD⟩ hL1
  refine wc_seq ?_; intro K5 hK5
  refine wc_seq ?_; intro K6 hK6
  refine wc_region ?_
  refine wl_y (y_move rfl) rfl ?_
  refine wl_y (y_lss rfl rfl) rfl ?_
  refine wl_nil ?_
  refine wq_then_norm (hK6 ?_)
  refine wc_dec rfl (fun hc1 => ?_) (fun hc1 => ?_)
  · skip
    refine wc_skip ?_
    refine wq_then_norm (hK5 ?_)
    refine wc_seq ?_; intro K7 hK7
    refine wc_block ?_
    refine wc_seq ?_; intro K8 hK8
    refine wc_region ?_
    refine wl_y (y_assign rfl) rfl ?_
    refine wl_nil ?_
    refine wq_then_norm (hK8 ?_)
    refine wc_seq ?_; intro K9 hK9
    refine wc_seq ?_; intro K10 hK10
    refine wc_region ?_
    refine wl_y (y_move rfl) rfl ?_
    refine wl_y (y_move rfl) rfl ?_
    refine wl_y (y_len_slice rfl Try.underlying24) rfl ?_
    refine wl_yask (y_lss rfl rfl) rfl (fun hlt => ?_) (fun hlt => ?_)
    · skip
      refine wl_nil ?_
      refine wq_then_norm (hK10 ?_)
      refine wc_true rfl rfl ?_
      obtain ⟨b, off, y, rfl, hy, hcy⟩ := (HA0.ext F).byte (k := k) (by omega)
      refine wc_region ?_
      refine wl_y (y_move rfl) rfl ?_
      refine wl_y (y_move rfl) rfl ?_
      refine wl_y (y_ixs1 rfl rfl Try.underlying24 (by kernel_rfl) rfl (by omega)) rfl ?_
      refine wl_y (y_load1 rfl Try.underlying5 rfl hcy) rfl ?_
      have hyX : X.getD k 0 = y := by rw [hks, hy.out]
      refine wl_y (y_assign rfl) rfl ?_
      refine wl_nil ?_
      refine wq_then_norm (hK9 ?_)
      refine wc_seq ?_; intro K11 hK11
      refine wc_region ?_
      have hyb := (y).toNat_lt
      refine wl_y (y_move rfl) rfl ?_
      refine wl_y (y_move rfl) rfl ?_
      refine wl_y (y_xor rfl rfl (bits_u8 (p := (y).toNat) (q := 54) (by omega) (by omega)).2.2) rfl ?_
      refine wl_ef (ef_lit (z := .int .u8 0) Try.underlying24 (by kernel_rfl) rfl rfl rfl rfl rfl) rfl ?_
      rintro _ w5 ⟨g5, rfl, B5, hg5, ex⟩
      replace F := F.ext ex
      replace R5 := R5.ext ex; replace R6 := R6.ext ex
      refine wl_ef (ef_app rfl rfl eltB R5 (At.blk (vs := [y ^^^ 54].map bv) (B5.congr (by rfl))) rfl (by intro u hu; exact bv_one u hu) (by omega) (by omega) F.size) rfl ?_
      rintro _ w6 ⟨A7, c7, rfl, R7, be, gr, hl⟩
      have F6 := F.trans be; have q6 := Row.app R6 hD gr hl R5.none_s; have R8 := R7.cat; rw [take_xor X k (by omega) 54 _ hyX] at R8
      refine wl_y (y_assign rfl) rfl ?_
      refine wl_nil ?_
      refine wq_then_norm (hK11 ?_)
      refine wc_region ?_
      have hs6 := F6.size
      refine wl_y (y_move rfl) rfl ?_
      refine wl_y (y_move rfl) rfl ?_
      refine wl_y (y_xor rfl rfl (bits_u8 (p := (y).toNat) (q := 92) (by omega) (by omega)).2.2) rfl ?_
      refine wl_ef (ef_lit (z := .int .u8 0) Try.underlying24 (by kernel_rfl) rfl rfl rfl rfl rfl) rfl ?_
      rintro _ w7 ⟨g7, rfl, B7, hg7, ex⟩
      replace R8 := R8.ext ex; have R9 := q6.1.ext ex; have F7 := F6.ext ex
      refine wl_ef (ef_app rfl rfl eltB R9 (At.blk (vs := [y ^^^ 92].map bv) (B7.congr (by rfl))) rfl (by intro u hu; exact bv_one u hu) (by omega) (by omega) F7.size) rfl ?_
      rintro _ w8 ⟨A9, c9, rfl, R10, be, gr, hl⟩
      have F8 := F7.trans be; have q8 := Row.app R8 q6.2.symm gr hl R9.none_s; have R11 := R10.cat; rw [take_xor X k (by omega) 92 _ hyX] at R11
      refine wl_y (y_assign rfl) rfl ?_
      refine wl_nil ?_
      refine wq_blk_norm ?_
      refine wq_then_norm (hK7 ?_)
      refine wc_region ?_
      refine wl_y (y_move rfl) rfl ?_
      refine wl_y (y_add rfl rfl (i64_ok (by omega) (by omega))) rfl ?_
      refine wl_y (y_assign rfl) rfl ?_
      refine wl_nil ?_
      refine wq_then_norm ?_
      refine hL1 _ _ ⟨k + 1, c7, c9, A7, A9, rfl, rfl, by omega, F8, q8.1, R11, q8.2.symm⟩ (by omega) ⟨rfl, rfl, rfl, rfl, (by first | rfl | exact congrArg some (int_val (by omega))), trivial⟩
    · skip
      refine wl_nil ?_
      refine wq_then_norm (hK10 ?_)
      refine wc_false rfl rfl ?_
      refine wc_skip ?_
      refine wq_then_norm (hK9 ?_)
      refine wc_seq ?_; intro K12 hK12
      have hyX : X.getD k 0 = 0 := by rw [hks, List.getD_eq_getElem?_getD, List.getElem?_eq_none (by omega)]; rfl
      refine wc_region ?_
      have hyb := ((0 : UInt8)).toNat_lt
      refine wl_y (y_move rfl) rfl ?_
      refine wl_y (y_move rfl) rfl ?_
      refine wl_y (y_xor rfl rfl (bits_u8 (p := ((0 : UInt8)).toNat) (q := 54) (by omega) (by omega)).2.2) rfl ?_
      refine wl_ef (ef_lit (z := .int .u8 0) Try.underlying24 (by kernel_rfl) rfl rfl rfl rfl rfl) rfl ?_
      rintro _ w5 ⟨g5, rfl, B5, hg5, ex⟩
      replace F := F.ext ex
      replace R5 := R5.ext ex; replace R6 := R6.ext ex
      refine wl_ef (ef_app rfl rfl eltB R5 (At.blk (vs := [(0 : UInt8) ^^^ 54].map bv) (B5.congr (by rfl))) rfl (by intro u hu; exact bv_one u hu) (by omega) (by omega) F.size) rfl ?_
      rintro _ w6 ⟨A7, c7, rfl, R7, be, gr, hl⟩
      have F6 := F.trans be; have q6 := Row.app R6 hD gr hl R5.none_s; have R8 := R7.cat; rw [take_xor X k (by omega) 54 _ hyX] at R8
      refine wl_y (y_assign rfl) rfl ?_
      refine wl_nil ?_
      refine wq_then_norm (hK12 ?_)
      refine wc_region ?_
      have hs6 := F6.size
      refine wl_y (y_move rfl) rfl ?_
      refine wl_y (y_move rfl) rfl ?_
      refine wl_y (y_xor rfl rfl (bits_u8 (p := ((0 : UInt8)).toNat) (q := 92) (by omega) (by omega)).2.2) rfl ?_
      refine wl_ef (ef_lit (z := .int .u8 0) Try.underlying24 (by kernel_rfl) rfl rfl rfl rfl rfl) rfl ?_
      rintro _ w7 ⟨g7, rfl, B7, hg7, ex⟩
      replace R8 := R8.ext ex; have R9 := q6.1.ext ex; have F7 := F6.ext ex
      refine wl_ef (ef_app rfl rfl eltB R9 (At.blk (vs := [(0 : UInt8) ^^^ 92].map bv) (B7.congr (by rfl))) rfl (by intro u hu; exact bv_one u hu) (by omega) (by omega) F7.size) rfl ?_
      rintro _ w8 ⟨A9, c9, rfl, R10, be, gr, hl⟩
      have F8 := F7.trans be; have q8 := Row.app R8 q6.2.symm gr hl R9.none_s; have R11 := R10.cat; rw [take_xor X k (by omega) 92 _ hyX] at R11
      refine wl_y (y_assign rfl) rfl ?_
      refine wl_nil ?_
      refine wq_blk_norm ?_
      refine wq_then_norm (hK7 ?_)
      refine wc_region ?_
      refine wl_y (y_move rfl) rfl ?_
      refine wl_y (y_add rfl rfl (i64_ok (by omega) (by omega))) rfl ?_
      refine wl_y (y_assign rfl) rfl ?_
      refine wl_nil ?_
      refine wq_then_norm ?_
      refine hL1 _ _ ⟨k + 1, c7, c9, A7, A9, rfl, rfl, by omega, F8, q8.1, R11, q8.2.symm⟩ (by omega) ⟨rfl, rfl, rfl, rfl, (by first | rfl | exact congrArg some (int_val (by omega))), trivial⟩
  · skip
    refine wc_exit ?_
    refine wq_then_exit ?_
    refine wq_then_exit ?_
    refine wq_blk_hit ?_
    refine wq_then_norm (hK3 ?_)
    refine wc_seq ?_; intro K13 hK13
    obtain rfl : k = 64 := by omega
    rw [List.take_of_length_le (by omega), hX] at R5 R6
    have hsF := F.size
    refine wc_region ?_
    refine wl_y (y_move rfl) rfl ?_
    refine wl_y (y_move rfl) rfl ?_
    refine wl_call Try.func61 rfl rfl rfl (join23_any A5 B 64 c5 m d _ _ _ R5.bs (by omega) (HB0.ext F) (by omega)) rfl ?_
    rintro e w10 ⟨A10, c10, rfl, R10, ex⟩
    refine ⟨_, rfl, ?_⟩
    replace F := F.ext ex
    replace R10 := R10.lower hsF; replace R6 := R6.ext ex
    refine wl_y (y_assign rfl) rfl ?_
    refine wl_nil ?_
    refine wq_then_norm (hK13 ?_)
    refine wc_seq ?_; intro K14 hK14
    refine wc_region ?_
    refine wl_y (y_move rfl) rfl ?_
    refine wl_y (y_move rfl) rfl ?_
    refine wl_y (y_move rfl) rfl ?_
    have hsG := F.size
    refine wl_call Try.func54 rfl rfl rfl (digest_any A10 _ c10 _ _ R10.bs (by omega)) rfl ?_
    rintro e w11 ⟨A11, c11, rfl, O11, ex⟩
    refine ⟨_, rfl, ?_⟩
    replace F := F.ext ex
    replace R10 := R10.ext ex
    replace R6 := R6.ext ex
    have H11 := O11.bs
    have F0 := F.size
    refine wl_call Try.func61 rfl rfl rfl (join23_any A6 A11 64 c6 32 c11 _ _ _ R6.bs (by omega) H11 (by omega)) rfl ?_
    rintro e w12 ⟨A12, c12, rfl, R12, ex⟩
    refine ⟨_, rfl, ?_⟩
    replace F := F.ext ex
    replace R10 := R10.ext ex
    replace R6 := R6.ext ex
    replace H11 := H11.ext ex
    replace R12 := R12.lower F0
    have R10' := R10; have R12' := R12; have F1 := F.size
    refine wl_ef (ef_lit (z := .slice none 0 0) Try.underlying22 (by kernel_rfl) rfl rfl rfl rfl rfl) rfl ?_
    rintro _ w13 ⟨g13, rfl, B13, hg13, ex⟩
    replace F := F.ext ex
    replace R10 := R10.ext ex
    replace R6 := R6.ext ex
    replace H11 := H11.ext ex
    replace R12 := R12.ext ex
    skip
    refine wl_y (y_assign rfl) rfl ?_
    refine wl_nil ?_
    refine wq_then_norm (hK14 ?_)
    refine wc_ret ?_
    refine hret rfl ?_
    exact ⟨_, 2, rfl, rss_two B13 (by omega) R10 R12 (dj_newR R10' hg13) (dj_newR R12' hg13), F⟩
theorem trail_any (A : Option Addr) (n c : Nat) (xs : List UInt8) (cs : Array Value) (x : Ctx) (w : World) (HA : Bs w A n xs) (hn : n ≤ 64) (H : CtxAt w cs x) (hs : x.Small) :
    Calls Try.prog 24 #[.slice A n c, .agg cs] w fun e w' => ∃ A' c', e = .returned (.slice A' 8 c') ∧ Bss w' A' 8 (trailL xs x) ∧ Ext w w' := by
  have hz := H.size
  have E := Ext.refl w
  have hsl := sLab_size
  refine vc_enter1 33 Try.func24 rfl rfl rfl rfl ?_
  intro Q hret
  refine wc_seq ?_; intro K1 hK1
  refine wc_region ?_
  refine wl_ef (ef_box (cs := cs) rfl rfl) rfl ?_
  rintro _ w1 ⟨g3, rfl, B3, hg3, ex⟩
  replace E := E.ext ex
  replace HA := HA.ext ex
  replace H := H.ext ex
  skip
  refine wl_y (y_assign rfl) rfl ?_
  refine wl_nil ?_
  refine wq_then_norm (hK1 ?_)
  refine wc_seq ?_; intro K2 hK2
  refine wc_region ?_
  refine wl_y (y_move rfl) rfl ?_
  refine wl_call Try.func55 rfl rfl rfl (rmiddle_any A n c xs _ HA (by omega)) rfl ?_
  rintro e w2 ⟨A2, c2, rfl, H2, ex⟩
  refine ⟨_, rfl, ?_⟩
  replace E := E.ext ex
  replace HA := HA.ext ex
  replace H := H.ext ex
  replace B3 := B3.ext ex
  skip
  refine wl_y (y_assign rfl) rfl ?_
  refine wl_nil ?_
  refine wq_then_norm (hK2 ?_)
  refine wc_seq ?_; intro K3 hK3
  refine wc_region ?_
  refine wl_y (y_move rfl) rfl ?_
  refine wl_y (y_loadw rfl Try.underlying39 rfl (by rw [hz]; kernel_rfl) B3) rfl ?_
  refine wl_call Try.func56 rfl rfl rfl (repoch_any A n c xs cs x _ HA (by omega) H hs) rfl ?_
  rintro e w3 ⟨A3, c3, rfl, H3, ex⟩
  refine ⟨_, rfl, ?_⟩
  replace E := E.ext ex
  replace HA := HA.ext ex
  replace H := H.ext ex
  replace B3 := B3.ext ex
  replace H2 := H2.ext ex
  skip
  refine wl_y (y_assign rfl) rfl ?_
  refine wl_nil ?_
  refine wq_then_norm (hK3 ?_)
  refine wc_seq ?_; intro K4 hK4
  refine wc_region ?_
  refine wl_y (y_move rfl) rfl ?_
  refine wl_ef (ef_make (n := 32) (z := .int .u8 0) (bytes := 1) rfl rfl Try.underlying24 (by kernel_rfl) rfl rfl rfl rfl (by omega) (by omega)) rfl ?_
  rintro _ w4 ⟨gz, rfl, BZ, hgz, ex⟩
  replace E := E.ext ex
  replace HA := HA.ext ex
  replace H := H.ext ex
  replace B3 := B3.ext ex
  replace H2 := H2.ext ex
  replace H3 := H3.ext ex
  have HZ := zeros32_bs BZ; have K := Ext.refl w4; have E4 := E; have H4 := H3
  refine wl_call Try.func57 rfl rfl rfl (hashed_any A _ n c 32 32 xs _ _ HA (by omega) HZ (by omega)) rfl ?_
  rintro e w5 ⟨A5, c5, rfl, S5, ex⟩
  refine ⟨_, rfl, ?_⟩
  replace E := E.ext ex
  replace HA := HA.ext ex
  replace H := H.ext ex
  replace B3 := B3.ext ex
  replace H2 := H2.ext ex
  replace H3 := H3.ext ex
  replace HZ := HZ.ext ex
  replace K := K.ext ex
  skip
  refine wl_y (y_assign rfl) rfl ?_
  refine wl_nil ?_
  refine wq_then_norm (hK4 ?_)
  refine wc_seq ?_; intro K5 hK5
  refine wc_region ?_
  refine wl_y (y_move rfl) rfl ?_
  refine wl_y (y_move rfl) rfl ?_
  refine wl_y (y_loadw rfl Try.underlying39 rfl (by rw [hz]; kernel_rfl) B3) rfl ?_
  refine wl_call Try.func59 rfl rfl rfl (rctxBytes_any cs x _ H hs) rfl ?_
  rintro e w6 ⟨A6, k6, c6, rfl, R6, hk6, ex⟩
  refine ⟨_, rfl, ?_⟩
  replace E := E.ext ex
  replace HA := HA.ext ex
  replace H := H.ext ex
  replace B3 := B3.ext ex
  replace H2 := H2.ext ex
  replace H3 := H3.ext ex
  replace HZ := HZ.ext ex
  replace K := K.ext ex
  replace S5 := S5.ext ex
  have H6 := R6.bs
  refine wl_call Try.func58 rfl rfl rfl (info_any sEpoch A6 k6 c6 _ _ (by decide) H6 (by omega)) rfl ?_
  rintro e w7 ⟨A7, k7, c7, rfl, R7, hk7, ex⟩
  refine ⟨_, rfl, ?_⟩
  replace E := E.ext ex
  replace HA := HA.ext ex
  replace H := H.ext ex
  replace B3 := B3.ext ex
  replace H2 := H2.ext ex
  replace H3 := H3.ext ex
  replace HZ := HZ.ext ex
  replace K := K.ext ex
  replace S5 := S5.ext ex
  have H7 := R7.bs
  have hS5 := S5; have K7 := K
  refine wl_call Try.func57 rfl rfl rfl (hashed_any A2 A7 32 c2 k7 c7 _ _ _ H2 (by omega) H7 (by omega)) rfl ?_
  rintro e w8 ⟨A8, c8, rfl, S8, ex⟩
  refine ⟨_, rfl, ?_⟩
  replace E := E.ext ex
  replace HA := HA.ext ex
  replace H := H.ext ex
  replace B3 := B3.ext ex
  replace H2 := H2.ext ex
  replace H3 := H3.ext ex
  replace HZ := HZ.ext ex
  replace K := K.ext ex
  replace S5 := S5.ext ex
  have hb8 := K7.size; have kb8 := K.size
  refine wl_ef (ef_appS rfl rfl S5 S8 (by intro g o s hA; subst hA; exact hS5.lt) hb8 (by omega) (by omega) kb8) rfl ?_
  rintro _ w9 ⟨A9, c9, rfl, S9, be⟩
  replace K := K.trans be; replace H3 := H4.ext K; replace E := E4.ext K
  refine wl_y (y_assign rfl) rfl ?_
  refine wl_nil ?_
  refine wq_then_norm (hK5 ?_)
  refine wc_seq ?_; intro K6 hK6
  refine wc_region ?_
  refine wl_y (y_move rfl) rfl ?_
  refine wl_y (y_move rfl) rfl ?_
  refine wl_call Try.func58 rfl rfl rfl (info_any (sLab 5) none 0 0 [] _ (hsl 5) (Bs.nil _ _) (by omega)) rfl ?_
  rintro e v7 ⟨A10, k10, c10, rfl, R10, hk10, ex⟩
  refine ⟨_, rfl, ?_⟩
  replace E := E.ext ex
  replace H3 := H3.ext ex
  replace K := K.ext ex
  replace S9 := S9.ext ex
  have H10 := R10.bs
  have hS9 := S9; have L7 := K
  refine wl_call Try.func57 rfl rfl rfl (hashed_any A3 A10 32 c3 k10 c10 _ _ _ H3 (by omega) H10 (by omega)) rfl ?_
  rintro e v8 ⟨A11, c11, rfl, S11, ex⟩
  refine ⟨_, rfl, ?_⟩
  replace E := E.ext ex
  replace H3 := H3.ext ex
  replace K := K.ext ex
  replace S9 := S9.ext ex
  have hb9 := L7.size; have kb9 := K.size
  refine wl_ef (ef_appS rfl rfl S9 S11 (by intro g o s hA; subst hA; exact hS9.lt) hb9 (by omega) (by omega) kb9) rfl ?_
  rintro _ v9 ⟨A12, c12, rfl, S12, be⟩
  replace K := K.trans be; replace H3 := H4.ext K; replace E := E4.ext K
  refine wl_y (y_assign rfl) rfl ?_
  refine wl_nil ?_
  refine wq_then_norm (hK6 ?_)
  refine wc_seq ?_; intro K7 hK7
  refine wc_region ?_
  refine wl_y (y_move rfl) rfl ?_
  refine wl_y (y_move rfl) rfl ?_
  refine wl_call Try.func58 rfl rfl rfl (info_any (sLab 8) none 0 0 [] _ (hsl 8) (Bs.nil _ _) (by omega)) rfl ?_
  rintro e u7 ⟨A13, k13, c13, rfl, R13, hk13, ex⟩
  refine ⟨_, rfl, ?_⟩
  replace E := E.ext ex
  replace H3 := H3.ext ex
  replace K := K.ext ex
  replace S12 := S12.ext ex
  have H13 := R13.bs
  have hS12 := S12; have M7 := K
  refine wl_call Try.func57 rfl rfl rfl (hashed_any A3 A13 32 c3 k13 c13 _ _ _ H3 (by omega) H13 (by omega)) rfl ?_
  rintro e u8 ⟨A14, c14, rfl, S14, ex⟩
  refine ⟨_, rfl, ?_⟩
  replace E := E.ext ex
  replace H3 := H3.ext ex
  replace K := K.ext ex
  replace S12 := S12.ext ex
  have hb12 := M7.size; have kb12 := K.size
  refine wl_ef (ef_appS rfl rfl S12 S14 (by intro g o s hA; subst hA; exact hS12.lt) hb12 (by omega) (by omega) kb12) rfl ?_
  rintro _ u9 ⟨A15, c15, rfl, S15, be⟩
  replace K := K.trans be; replace E := E4.ext K
  refine wl_y (y_assign rfl) rfl ?_
  refine wl_nil ?_
  refine wq_then_norm (hK7 ?_)
  refine wc_ret ?_
  refine hret rfl ?_
  exact ⟨A15, c15, rfl, S15.bss, E⟩
end Go.Proofs.Ytopbahbhldgbbaa
