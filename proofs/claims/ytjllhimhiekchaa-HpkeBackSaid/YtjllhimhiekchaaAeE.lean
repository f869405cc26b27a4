/- aes: one block. No conditions: contracts of functions. -/
import Derived.Test.YtjllhimhiekchaaAeD
namespace Go.Proofs.Ytjllhimhiekchaa
open Go.RowKit
section
variable {P : Program} {L : List (Nat × Value)} {w : World} {ty t e : TypeId} {x y : Operand}
/-- 'copy(d, s)', d a row that the call owns, s as long as d. -/
theorem ef_copyR {g base n c d : Nat} {A : Option Addr} {xs cs : List Value} {dT sT : TypeId} (hx : ev L x = some (.slice (some ⟨g, 0, none⟩) n c)) (hy : ev L y = some (.slice A n d)) (hu : P.underlying dT = some (.slice e)) (hs : (P.info? e).map (·.size) = some 1)
    (hown : Row w base e (some ⟨g, 0, none⟩) n c xs) (hr : At w A cs) (hn : cs.length = n) (h1 : ∀ v ∈ cs, v.oneCell' = true) :
    Ef P L w (.call { callee := .builtin .copy, args := #[x, y], argTypes := #[dT, sT] }) ty fun u w' => u = .int .i64 (cs.length : Int) ∧ Row w' base e (some ⟨g, 0, none⟩) n c cs ∧ Chg w g w' := by
  obtain ⟨hl, h⟩ := hown
  rcases h with ⟨h, _⟩ | ⟨g', cap, cur, hv, hb, hg, hc, hm, hz, ht⟩
  · cases h
  · injection hv with h1' h2 h3
    injection h1' with h1'
    injection h1' with e1 _ _
    subst e1; subst h3
    have hz' : cur.size = c := by omega
    refine (ef_copy (cur := cur) (cs := cs) hx hy hu hs hg hr (by rw [hn]; exact (Nat.min_self n).symm) (by omega) h1).mono fun u w' ⟨hu', hB, hC⟩ => ⟨hu', ⟨by omega, .inr ⟨g, c, _, rfl, hb, hB, hc, hm, ?_, ?_⟩⟩, hC⟩
    · simp; omega
    · simp [hn]
theorem y_cut4 {z : Operand} {g n c' j : Nat} {k k2 : IntKind} {a b : Int} {e : TypeId} (hx : ev L x = some (.slice (some ⟨g, 0, none⟩) n c')) (hy : ev L y = some (.int k a)) (hz : ev L z = some (.int k2 b)) (hu : P.underlying t = some (.slice e)) (hs : (P.info? e).map (·.size) = some 1) (ha : a = (j : Int)) (hb : b = ((j + 4 : Nat) : Int)) (hj : j + 4 ≤ c') :
    Y P L w (.slice t x (some y) (some z) none) ty (.slice (some ⟨g, j, none⟩) 4 (c' - j)) := by
  have h := y_cutlh (w := w) (ty := ty) (s := 1) hx hy hz hu hs ha hb (by omega) (by omega)
  have e1 : cutA (some ⟨g, 0, none⟩) c' j 1 = some ⟨g, j, none⟩ := by
    unfold cutA; rw [if_neg (by omega)]; simp [Addr.add]
    intro h; exact h.symm
  rw [e1, show j + 4 - j = 4 by omega] at h
  exact h
end
attribute [local irreducible] Y Ef WL WC WK WQ WM OpM WN WF OpN WJ OpJ
open Ae
namespace Ae
def ark (s w : List UInt8) (n : Nat) : Nat → List UInt8
  | 0 => s
  | i + 1 => (ark s w n i).set i (UInt8.ofNat (cell (ark s w n i) i ^^^ cell w (16 * n + i)))
def sbs (T s : List UInt8) : Nat → List UInt8
  | 0 => List.replicate 16 0
  | i + 1 => (sbs T s i).set i (UInt8.ofNat (cell T (cell s ((i + i % 4 * 4) % 16))))
def mxc (x : List UInt8) : Nat → List UInt8
  | 0 => x
  | i + 1 => mix (mxc x i) (4 * i)
def stt (T w b : List UInt8) : Nat → List UInt8
  | 0 => b
  | n + 1 => mxc (sbs T (ark (stt T w b n) w n 16) 16) (if n + 1 < 10 then 4 else 0)
def enc (key b : List UInt8) : List UInt8 := ark (stt box (keys box key) b 10) (keys box key) 10 16
theorem ark_length (s w : List UInt8) (n : Nat) : ∀ i, (ark s w n i).length = s.length
  | 0 => rfl
  | i + 1 => by rw [ark, List.length_set, ark_length s w n i]
theorem sbs_length (T s : List UInt8) : ∀ i, (sbs T s i).length = 16
  | 0 => by rw [sbs, List.length_replicate]
  | i + 1 => by rw [sbs, List.length_set, sbs_length T s i]
theorem mxc_length (x : List UInt8) : ∀ i, (mxc x i).length = x.length
  | 0 => rfl
  | i + 1 => by rw [mxc, mix_length, mxc_length x i]
theorem stt_length {T w b : List UInt8} (h : b.length = 16) : ∀ n, (stt T w b n).length = 16
  | 0 => h
  | n + 1 => by rw [stt, mxc_length, sbs_length]
end Ae
theorem rem4 (m : Nat) : ((m : Nat) : Int).tmod 4 = ((m % 4 : Nat) : Int) := by rw [Int.tmod_eq_emod_of_nonneg (by omega)]; omega
theorem remx (m : Nat) {z : Int} (h : z = (m : Int)) : z.tmod 16 = ((m % 16 : Nat) : Int) := by subst h; exact rem16 m
set_option maxHeartbeats 1000000 in
theorem ablock_any {A B : Option Addr} {c d : Nat} {key blk : List UInt8} (w : World) (HA : Bs w A 16 key) (HB : Bs w B 16 blk) :
    Calls Try.prog 58 #[.slice A 16 c, .slice B 16 d] w fun e w' => ∃ A' c', e = .returned (.tuple #[.slice A' 16 c', .bool true]) ∧ Row w' w.heap.size 5 A' 16 c' ((enc key blk).map bv) ∧ Ext w w' := by
  have E := Ext.refl w
  have hkl := HA.1; have hbl := HB.1
  obtain ⟨T, hT⟩ : ∃ T, T = box := ⟨_, rfl⟩
  have hTl : T.length = 256 := by rw [hT]; exact tab_length _
  have hEnc : enc key blk = ark (stt T (keys T key) blk 10) (keys T key) 10 16 := by rw [hT]; rfl
  have hWl0 := keys_length (T := T) hkl
  obtain ⟨W, hW⟩ : ∃ W, W = keys T key := ⟨_, rfl⟩
  rw [← hW] at hEnc hWl0
  refine vc_enter2 91 Try.func58 rfl rfl rfl rfl ?_
  intro Q hret
  refine wc_seq ?_; intro K1 hK1
  refine wc_region ?_
  refine wl_y (y_assign rfl) rfl ?_
  refine wl_y (y_assign rfl) rfl ?_
  refine wl_nil ?_
  refine wq_then_norm (hK1 ?_)
  refine wc_scope2 0 (fun n' L wr => ∃ (n g6 g7 c7 g8 c8 : Nat) (w4 : World), L = [(6, .pointer (some ⟨g6, 0, none⟩)), (7, .slice (some ⟨g7, 0, none⟩) 176 c7), (8, .slice (some ⟨g8, 0, none⟩) 16 c8), (9, .int .i64 (n : Int))] ∧ n' = 10 - n ∧ (n ≤ 10 ∧ Ext w w4 ∧ Blk w4 g6 98 (bys T) ∧ Bs w4 (some ⟨g7, 0, none⟩) 176 W ∧ Ext w4 wr ∧ Row wr w4.heap.size 5 (some ⟨g8, 0, none⟩) 16 c8 ((stt T W blk n).map bv))) rfl ?_ ?_
  · rintro G n' L wr ⟨n, g6, g7, c7, g8, c8, w4, rfl, rfl, hn, E4, T64, HW4, X, R⟩ hG0
    obtain ⟨S, hS⟩ : ∃ S, S = stt T W blk n := ⟨_, rfl⟩
    have hSl : S.length = 16 := by rw [hS]; exact stt_length hbl n
    rw [← hS] at R
    refine wc_seq ?_; intro K2 hK2
    refine wc_seq ?_; intro K3 hK3
    refine wc_region ?_
    refine wl_y (y_move rfl) rfl ?_
    refine wl_y (y_len_slice rfl Try.underlying22) rfl ?_
    refine wl_y (y_move rfl) rfl ?_
    refine wl_nil ?_
    refine wq_then_norm (hK3 ?_)
    refine wc_block ?_
    refine wc_loop (fun n' L ws => ∃ (i : Nat), L = [(6, .pointer (some ⟨g6, 0, none⟩)), (7, .slice (some ⟨g7, 0, none⟩) 176 c7), (8, .slice (some ⟨g8, 0, none⟩) 16 c8), (9, .int .i64 (n : Int)), (30, .int .i64 16), (31, .int .i64 (i : Int))] ∧ n' = 16 - i ∧ (i ≤ 16 ∧ Ext w4 ws ∧ Row ws w4.heap.size 5 (some ⟨g8, 0, none⟩) 16 c8 ((ark S W n i).map bv))) _ _ ⟨0, rfl, rfl, Nat.zero_le _, X, R⟩ ⟨rfl, rfl, rfl, (by first | rfl | exact congrArg some (int_val (by omega))), (by first | rfl | exact congrArg some (int_val (by omega))), (by first | rfl | exact congrArg some (int_val (by omega))), trivial⟩ ?_
    rintro KL1 n' L ws ⟨i, rfl, rfl, hi, X, R⟩ hL1
    refine wc_seq ?_; intro K4 hK4
    refine wc_region ?_
    refine wl_y (y_lss rfl rfl) rfl ?_
    refine wl_nil ?_
    refine wq_then_norm (hK4 ?_)
    refine wc_seq ?_; intro K5 hK5
    refine wc_dec rfl (fun hc2 => ?_) (fun hc2 => ?_)
    · skip
      refine wc_skip ?_
      refine wq_then_norm (hK5 ?_)
      refine wc_seq ?_; intro K6 hK6
      refine wc_block ?_
      refine wc_seq ?_; intro K7 hK7
      refine wc_region ?_
      refine wl_y (y_move rfl) rfl ?_
      refine wl_y (y_assign rfl) rfl ?_
      refine wl_nil ?_
      refine wq_then_norm (hK7 ?_)
      obtain ⟨V, hV⟩ : ∃ V, V = ark S W n i := ⟨_, rfl⟩
      rw [← hV] at R
      have HV := R.bs
      have HWs := HW4.wk X
      refine wc_draw (by kernel_rfl) 14 rfl ?_; intro wd10 ex hd10
      replace X := X.ext ex
      replace R := R.ext ex
      replace HV := HV.ext ex
      replace HWs := HWs.ext ex
      refine wm_z 0 rfl (by kernel_rfl) (fun _ => y_move rfl) rfl ?_
      refine wm_z 1 rfl (by kernel_rfl) (fun _ => y_move rfl) rfl ?_
      refine wm_z 2 rfl (by kernel_rfl) (fun _ => y_ixs1 rfl rfl Try.underlying22 (by kernel_rfl) (j := i) (by omega) (by omega)) rfl ?_
      refine wm_y 3 rfl (by kernel_rfl) (y_load1 rfl Try.underlying5 rfl (bsget HV (k := i) (by omega))) rfl ?_
      refine wm_z 4 rfl (by kernel_rfl) (fun _ => y_move rfl) rfl ?_
      refine wm_z 5 rfl (by kernel_rfl) (fun _ => y_move rfl) rfl ?_
      refine wm_z 6 rfl (by kernel_rfl) (fun _ => y_mul rfl rfl (i64_ok (by omega) (by omega))) rfl ?_
      refine wm_z 7 rfl (by kernel_rfl) (fun _ => y_move rfl) rfl ?_
      refine wm_z 8 rfl (by kernel_rfl) (fun _ => y_add rfl rfl (i64_ok (by omega) (by omega))) rfl ?_
      refine wm_z 9 rfl (by kernel_rfl) (fun _ => y_ixs1 rfl rfl Try.underlying22 (by kernel_rfl) (j := 16 * n + i) (by omega) (by omega)) rfl ?_
      refine wm_y 10 rfl (by kernel_rfl) (y_load1 rfl Try.underlying5 rfl (bsget HWs (k := 16 * n + i) (by omega))) rfl ?_
      refine wm_z 11 rfl (by kernel_rfl) (fun _ => y_xor rfl rfl ((bits_u8 (Ae.c8 _ _) (Ae.c8 _ _)).2.2)) rfl ?_
      refine wm_z 12 rfl (by kernel_rfl) (fun _ => y_ixs1 rfl rfl Try.underlying22 (by kernel_rfl) (j := i) (by omega) (by omega)) rfl ?_
      refine wm_one 13 (by kernel_rfl) ?_; refine om_ef rfl (ef_storeR rfl rfl rfl (by kernel_rfl) R (by omega)) rfl ?_
      rintro _ w11 ⟨rfl, R11, cg⟩
      refine ⟨.inl rfl, ?_⟩
      have X11 := X.chg cg (R.lt).1; have R12 : Row w11 w4.heap.size 5 (some ⟨g8, 0, none⟩) 16 c8 ((V.set i (UInt8.ofNat (cell V i ^^^ cell W (16 * n + i)))).map bv) := (by rw [List.map_set, bv, u8_ofNat (x8 (Ae.c8 _ _) (Ae.c8 _ _))]; exact R11)
      refine wm_done (by kernel_rfl) ?_
      refine wq_nop ?_
      refine wq_blk_norm ?_
      refine wq_then_norm (hK6 ?_)
      refine wc_region ?_
      refine wl_y (y_add rfl rfl (i64_ok (by omega) (by omega))) rfl ?_
      refine wl_y (y_move rfl) rfl ?_
      refine wl_nil ?_
      refine wq_then_norm ?_
      refine hL1 _ _ ⟨i + 1, rfl, rfl, by omega, X11, (by rw [ark, ← hV]; exact R12)⟩ (by omega) ⟨rfl, rfl, rfl, (by first | rfl | exact congrArg some (int_val (by omega))), (by first | rfl | exact congrArg some (int_val (by omega))), (by first | rfl | exact congrArg some (int_val (by omega))), trivial⟩
    · skip
      refine wc_exit ?_
      refine wq_then_exit ?_
      refine wq_then_exit ?_
      refine wq_blk_hit ?_
      refine wq_then_norm (hK2 ?_)
      refine wc_seq ?_; intro K8 hK8
      refine wc_seq ?_; intro K9 hK9
      obtain rfl : i = 16 := by omega
      obtain ⟨V, hV⟩ : ∃ V, V = ark S W n 16 := ⟨_, rfl⟩
      have hVl : V.length = 16 := by rw [hV, ark_length]; exact hSl
      rw [← hV] at R
      refine wc_region ?_
      refine wl_y (y_move rfl) rfl ?_
      refine wl_y (y_eql rfl rfl) rfl ?_
      refine wl_nil ?_
      refine wq_then_norm (hK9 ?_)
      refine wc_dec rfl (fun hc3 => ?_) (fun hc3 => ?_)
      · skip
        refine wc_seq ?_; intro K10 hK10
        refine wc_region ?_
        refine wl_y (y_move rfl) rfl ?_
        refine wl_y (y_assign rfl) rfl ?_
        refine wl_y (y_assign rfl) rfl ?_
        refine wl_nil ?_
        refine wq_then_norm (hK10 ?_)
        refine wc_ret ?_
        refine wq_then_ret ?_
        refine wq_jump_ret ?_
        refine hret rfl rfl ?_
        obtain rfl : n = 10 := by omega
        exact ⟨_, c8, rfl, by rw [hEnc, ← hS, ← hV]; exact R.lower E4.size, E4.ext X⟩
      · skip
        refine wc_skip ?_
        refine wq_then_norm (hK8 ?_)
        refine wc_seq ?_; intro K11 hK11
        refine wc_region ?_
        refine wl_y (y_move rfl) rfl ?_
        refine wl_y (y_add rfl rfl (i64_ok (by omega) (by omega))) rfl ?_
        refine wl_y (y_assign rfl) rfl ?_
        refine wl_nil ?_
        refine wq_then_norm (hK11 ?_)
        refine wc_seq ?_; intro K12 hK12
        have X0 := X; have R0 := R
        refine wc_region ?_
        refine wl_ef (ef_make (n := 16) (z := .int .u8 0) (bytes := 1) rfl rfl Try.underlying22 (by kernel_rfl) rfl rfl rfl rfl (by omega) (by omega)) rfl ?_
        rintro _ w15 ⟨g11, rfl, D11, hg11, ex⟩
        replace X := X.ext ex
        replace R := R.ext ex
        have Y15 := ex; have B11 := D11.congr (cs' := bys (List.replicate 16 0)) (by kernel_rfl)
        refine wl_y (y_assign rfl) rfl ?_
        refine wl_nil ?_
        refine wq_then_norm (hK12 ?_)
        refine wc_seq ?_; intro K13 hK13
        refine wc_seq ?_; intro K14 hK14
        refine wc_region ?_
        refine wl_y (y_move rfl) rfl ?_
        refine wl_y (y_len_slice rfl Try.underlying22) rfl ?_
        refine wl_y (y_move rfl) rfl ?_
        refine wl_nil ?_
        refine wq_then_norm (hK14 ?_)
        refine wc_block ?_
        refine wc_loop (fun n' L wq => ∃ (i : Nat), L = [(6, .pointer (some ⟨g6, 0, none⟩)), (7, .slice (some ⟨g7, 0, none⟩) 176 c7), (8, .slice (some ⟨g8, 0, none⟩) 16 c8), (9, .int .i64 ((n : Int) + 1)), (11, .slice (some ⟨g11, 0, none⟩) 16 16), (55, .int .i64 16), (56, .int .i64 (i : Int))] ∧ n' = 16 - i ∧ (i ≤ 16 ∧ Ext ws wq ∧ Blk wq g11 5 (bys (sbs T V i)))) _ _ ⟨0, rfl, rfl, Nat.zero_le _, Y15, B11⟩ ⟨rfl, rfl, rfl, (by first | rfl | exact congrArg some (int_val (by omega))), rfl, (by first | rfl | exact congrArg some (int_val (by omega))), (by first | rfl | exact congrArg some (int_val (by omega))), trivial⟩ ?_
        rintro KL2 n' L wq ⟨i, rfl, rfl, hi, Y, B⟩ hL2
        refine wc_seq ?_; intro K15 hK15
        refine wc_region ?_
        refine wl_y (y_lss rfl rfl) rfl ?_
        refine wl_nil ?_
        refine wq_then_norm (hK15 ?_)
        refine wc_seq ?_; intro K16 hK16
        refine wc_dec rfl (fun hc4 => ?_) (fun hc4 => ?_)
        · skip
          refine wc_skip ?_
          refine wq_then_norm (hK16 ?_)
          refine wc_seq ?_; intro K17 hK17
          refine wc_block ?_
          refine wc_seq ?_; intro K18 hK18
          refine wc_region ?_
          refine wl_y (y_move rfl) rfl ?_
          refine wl_y (y_assign rfl) rfl ?_
          refine wl_nil ?_
          refine wq_then_norm (hK18 ?_)
          have HV := R0.bs.wk Y
          have TQ := (T64.ext X0).ext Y
          have hxl := sbs_length T V i
          refine wc_region ?_
          refine wl_y (y_move rfl) rfl ?_
          refine wl_y (y_move rfl) rfl ?_
          refine wl_y (y_move rfl) rfl ?_
          refine wl_y (y_move rfl) rfl ?_
          refine wl_y (y_move rfl) rfl ?_
          refine wl_y (y_rem rfl rfl (by omega) (show _ = ((i % 4 : Nat) : Int) from rem4 i)) rfl ?_
          refine wl_y (y_mul rfl rfl (i64_ok (by omega) (by omega))) rfl ?_
          refine wl_y (y_add rfl rfl (i64_ok (by omega) (by omega))) rfl ?_
          refine wl_y (y_rem rfl rfl (by omega) (show _ = (((i + i % 4 * 4) % 16 : Nat) : Int) from remx (i + i % 4 * 4) (by omega))) rfl ?_
          refine wl_y (y_ixs1 rfl rfl Try.underlying22 (by kernel_rfl) (j := (i + i % 4 * 4) % 16) (by omega) (by omega)) rfl ?_
          refine wl_y (y_load1 rfl Try.underlying5 rfl (bsget HV (k := (i + i % 4 * 4) % 16) (by omega))) rfl ?_
          refine wl_y (y_ixa1 rfl rfl Try.underlying98 (by kernel_rfl) (j := cell V ((i + i % 4 * 4) % 16)) (by omega) (by have := Ae.c8 V ((i + i % 4 * 4) % 16); omega)) rfl ?_
          refine wl_y (y_load1 rfl Try.underlying5 rfl (bget0 TQ (k := cell V ((i + i % 4 * 4) % 16)) (by rw [hTl]; exact Ae.c8 _ _))) rfl ?_
          refine wl_y (y_ixs1 rfl rfl Try.underlying22 (by kernel_rfl) (j := i) (by omega) (by omega)) rfl ?_
          refine wl_ef (ef_storeB rfl rfl rfl (by kernel_rfl) B (by rw [bys_size, hxl]; omega)) rfl ?_
          rintro _ w19 ⟨rfl, D19, cg⟩
          have Y19 := Y.chg cg hg11; have B19 := D19; rw [← u8_ofNat (Ae.c8 T (cell V ((i + i % 4 * 4) % 16))), bys_put, Nat.zero_add] at B19
          refine wl_nil ?_
          refine wq_blk_norm ?_
          refine wq_then_norm (hK17 ?_)
          refine wc_region ?_
          refine wl_y (y_add rfl rfl (i64_ok (by omega) (by omega))) rfl ?_
          refine wl_y (y_move rfl) rfl ?_
          refine wl_nil ?_
          refine wq_then_norm ?_
          refine hL2 _ _ ⟨i + 1, rfl, rfl, by omega, Y19, B19⟩ (by omega) ⟨rfl, rfl, rfl, (by first | rfl | exact congrArg some (int_val (by omega))), rfl, (by first | rfl | exact congrArg some (int_val (by omega))), (by first | rfl | exact congrArg some (int_val (by omega))), trivial⟩
        · skip
          refine wc_exit ?_
          refine wq_then_exit ?_
          refine wq_then_exit ?_
          refine wq_blk_hit ?_
          refine wq_then_norm (hK13 ?_)
          refine wc_seq ?_; intro K19 hK19
          refine wc_seq ?_; intro K20 hK20
          obtain rfl : i = 16 := by omega
          obtain ⟨x, hx⟩ : ∃ x, x = sbs T V 16 := ⟨_, rfl⟩
          have hxl : x.length = 16 := by rw [hx]; exact sbs_length _ _ _
          rw [← hx] at B
          refine wc_region ?_
          refine wl_y (y_assign rfl) rfl ?_
          refine wl_nil ?_
          refine wq_then_norm (hK20 ?_)
          refine wc_block ?_
          refine wc_loop (fun n' L wu => ∃ (k : Nat), L = [(6, .pointer (some ⟨g6, 0, none⟩)), (7, .slice (some ⟨g7, 0, none⟩) 176 c7), (8, .slice (some ⟨g8, 0, none⟩) 16 c8), (9, .int .i64 ((n : Int) + 1)), (11, .slice (some ⟨g11, 0, none⟩) 16 16), (13, .int .i64 ((4 * k : Nat) : Int))] ∧ n' = 4 - k ∧ (k ≤ 4 ∧ (n + 1 < 10 ∨ k = 0) ∧ Ext ws wu ∧ Blk wu g11 5 (bys (mxc x k)))) _ _ ⟨0, rfl, rfl, Nat.zero_le _, .inr rfl, Y, B⟩ ⟨rfl, rfl, rfl, (by first | rfl | exact congrArg some (int_val (by omega))), rfl, (by first | rfl | exact congrArg some (int_val (by omega))), trivial⟩ ?_
          rintro KL3 n' L wu ⟨k, rfl, rfl, hk, hnk, Y, B⟩ hL3
          refine wc_seq ?_; intro K21 hK21
          refine wc_seq ?_; intro K22 hK22
          refine wc_region ?_
          refine wl_y (y_move rfl) rfl ?_
          refine wl_yask (y_lss rfl rfl) rfl (fun a1 => ?_) (fun a1 => ?_)
          · skip
            refine wl_y (y_move rfl) rfl ?_
            refine wl_gy 76 rfl rfl (y_move rfl) rfl ?_
            refine wl_gyask 76 rfl rfl (y_lss rfl rfl) rfl (fun a2 => ?_) (fun a2 => ?_)
            · skip
              refine wl_y (y_pickt rfl rfl) rfl ?_
              refine wl_nil ?_
              refine wq_then_norm (hK22 ?_)
              refine wc_true rfl rfl ?_
              refine wc_skip ?_
              refine wq_then_norm (hK21 ?_)
              refine wc_seq ?_; intro K23 hK23
              refine wc_block ?_
              have hml := mxc_length x k
              refine wc_region ?_
              refine wl_y (y_move rfl) rfl ?_
              refine wl_y (y_move rfl) rfl ?_
              refine wl_y (y_move rfl) rfl ?_
              refine wl_y (y_add rfl rfl (i64_ok (by omega) (by omega))) rfl ?_
              refine wl_y (y_cut4 (j := 4 * k) rfl rfl rfl Try.underlying22 (by kernel_rfl) rfl (by omega) (by omega)) rfl ?_
              refine wl_call Try.func79 rfl rfl rfl (mix_any _ B (by omega)) rfl ?_
              rintro e w24 ⟨rfl, B24, ch⟩
              refine ⟨_, rfl, ?_⟩
              have Y24 := Y.chsN ch (by simp; exact hg11)
              refine wl_nil ?_
              refine wq_blk_norm ?_
              refine wq_then_norm (hK23 ?_)
              refine wc_region ?_
              refine wl_y (y_move rfl) rfl ?_
              refine wl_y (y_add rfl rfl (i64_ok (by omega) (by omega))) rfl ?_
              refine wl_y (y_assign rfl) rfl ?_
              refine wl_nil ?_
              refine wq_then_norm ?_
              refine hL3 _ _ ⟨k + 1, rfl, rfl, by omega, (by omega), Y24, B24⟩ (by omega) ⟨rfl, rfl, rfl, (by first | rfl | exact congrArg some (int_val (by omega))), rfl, (by first | rfl | exact congrArg some (int_val (by omega))), trivial⟩
            · skip
              refine wl_y (y_pickt rfl rfl) rfl ?_
              refine wl_nil ?_
              refine wq_then_norm (hK22 ?_)
              refine wc_false rfl rfl ?_
              refine wc_exit ?_
              refine wq_then_exit ?_
              refine wq_then_exit ?_
              refine wq_blk_hit ?_
              refine wq_then_norm (hK19 ?_)
              refine wc_seq ?_; intro K24 hK24
              have hml := mxc_length x k
              have hk4 : k = if n + 1 < 10 then 4 else 0 := by split <;> omega
              refine wc_region ?_
              refine wl_y (y_move rfl) rfl ?_
              refine wl_y (y_move rfl) rfl ?_
              refine wl_ef (ef_copyR rfl rfl Try.underlying22 (by kernel_rfl) (R0.ext Y) ((bs_blk' B (by omega)).2) (by rw [List.length_map]; omega) (by intro u hu; exact bv_one u hu)) rfl ?_
              rintro _ w25 ⟨rfl, R25, cg⟩
              have X25 := (X0.ext Y).chg cg (R0.lt).1
              refine wl_nil ?_
              refine wq_then_norm (hK24 ?_)
              refine wc_goto ?_
              refine wq_jump_hit ?_
              refine hG0 _ _ ⟨n + 1, g6, g7, c7, g8, c8, w4, rfl, rfl, by omega, E4, T64, HW4, X25, (by rw [stt, ← hS, ← hV, ← hx, ← hk4]; exact R25)⟩ (by omega) ⟨rfl, rfl, rfl, (by first | rfl | exact congrArg some (int_val (by omega))), trivial⟩
          · skip
            refine wl_y (y_move rfl) rfl ?_
            refine wl_gno 76 rfl rfl rfl rfl ?_
            refine wl_gno 76 rfl rfl rfl rfl ?_
            refine wl_y (y_pickf rfl rfl) rfl ?_
            refine wl_nil ?_
            refine wq_then_norm (hK22 ?_)
            refine wc_false rfl rfl ?_
            refine wc_exit ?_
            refine wq_then_exit ?_
            refine wq_then_exit ?_
            refine wq_blk_hit ?_
            refine wq_then_norm (hK19 ?_)
            refine wc_seq ?_; intro K25 hK25
            have hml := mxc_length x k
            have hk4 : k = if n + 1 < 10 then 4 else 0 := by split <;> omega
            refine wc_region ?_
            refine wl_y (y_move rfl) rfl ?_
            refine wl_y (y_move rfl) rfl ?_
            refine wl_ef (ef_copyR rfl rfl Try.underlying22 (by kernel_rfl) (R0.ext Y) ((bs_blk' B (by omega)).2) (by rw [List.length_map]; omega) (by intro u hu; exact bv_one u hu)) rfl ?_
            rintro _ w25 ⟨rfl, R25, cg⟩
            have X25 := (X0.ext Y).chg cg (R0.lt).1
            refine wl_nil ?_
            refine wq_then_norm (hK25 ?_)
            refine wc_goto ?_
            refine wq_jump_hit ?_
            refine hG0 _ _ ⟨n + 1, g6, g7, c7, g8, c8, w4, rfl, rfl, by omega, E4, T64, HW4, X25, (by rw [stt, ← hS, ← hV, ← hx, ← hk4]; exact R25)⟩ (by omega) ⟨rfl, rfl, rfl, (by first | rfl | exact congrArg some (int_val (by omega))), trivial⟩
  · intro G hG0
    refine wc_seq ?_; intro K26 hK26
    refine wc_seq ?_; intro K27 hK27
    have HA0 := HA; have HB0 := HB
    refine wc_region ?_
    refine wl_y (y_move rfl) rfl ?_
    refine wl_y (y_len_slice rfl Try.underlying22) rfl ?_
    refine wl_y (Y.as (y_neq rfl rfl) (congrArg Value.bool (decide_eq_false (by omega)))) rfl ?_
    refine wl_y (y_move rfl) rfl ?_
    refine wl_gy 17 rfl rfl (y_move rfl) rfl ?_
    refine wl_gy 17 rfl rfl (y_len_slice rfl Try.underlying22) rfl ?_
    refine wl_gy 17 rfl rfl (Y.as (y_neq rfl rfl) (congrArg Value.bool (decide_eq_false (by omega)))) rfl ?_
    refine wl_y (y_pickf rfl rfl) rfl ?_
    refine wl_nil ?_
    refine wq_then_norm (hK27 ?_)
    refine wc_false rfl rfl ?_
    refine wc_skip ?_
    refine wq_then_norm (hK26 ?_)
    refine wc_seq ?_; intro K28 hK28
    refine wc_region ?_
    refine wl_call Try.func77 rfl rfl rfl (boxes_any _) rfl ?_
    rintro e w1 ⟨rfl, ex⟩
    refine ⟨_, rfl, ?_⟩
    replace HA := HA.ext ex
    replace HB := HB.ext ex
    replace E := E.ext ex
    rw [← hT]; have hs1 := E.size
    refine wl_ef (ef_alloc (Z := (List.replicate 256 (.int .u8 0)).toArray) (by kernel_rfl)) rfl ?_
    rintro _ w2 ⟨g6, rfl, D6, hg6, ex⟩
    replace HA := HA.ext ex
    replace HB := HB.ext ex
    replace E := E.ext ex
    skip
    refine wl_ef (ef_storeW rfl rfl (by rw [bys_size, hTl]; kernel_rfl) D6 (by rw [bys_size, hTl, List.size_toArray, List.length_replicate]) (bys_one _)) rfl ?_
    rintro _ w3 ⟨rfl, T6, cg⟩
    replace E := E.chg cg (by omega); replace HA := HA0.wk E; replace HB := HB0.wk E
    refine wl_nil ?_
    refine wq_then_norm (hK28 ?_)
    refine wc_seq ?_; intro K29 hK29
    refine wc_region ?_
    refine wl_y (y_move rfl) rfl ?_
    refine wl_y (y_loadw rfl Try.underlying98 rfl (by rw [bys_size, hTl]; kernel_rfl) T6) rfl ?_
    refine wl_call Try.func78 rfl rfl rfl (aexpand_any _ HA hTl) rfl ?_
    rintro e w4 ⟨A7, c7, rfl, R7, ex⟩
    refine ⟨_, rfl, ?_⟩
    replace HA := HA.ext ex
    replace HB := HB.ext ex
    replace E := E.ext ex
    replace T6 := T6.ext ex
    rw [← hW] at R7; obtain ⟨g7, _, rfl, _⟩ := R7.get (i := 0) (by omega); have HW4 := R7.bs; have T64 := T6; have E4 := E; have HB4 := HB
    refine wl_y (y_assign rfl) rfl ?_
    refine wl_nil ?_
    refine wq_then_norm (hK29 ?_)
    refine wc_seq ?_; intro K30 hK30
    refine wc_region ?_
    refine wl_ef (ef_lit (z := .int .u8 0) Try.underlying22 (by kernel_rfl) rfl rfl rfl rfl rfl) rfl ?_
    rintro _ w5 ⟨g5, rfl, D5, hg5, ex⟩
    replace HA := HA.ext ex
    replace HB := HB.ext ex
    replace E := E.ext ex
    replace T6 := T6.ext ex
    have R5 : Row w5 w4.heap.size 5 (some ⟨g5, 0, none⟩) 0 0 [] := Row.new D5 hg5 rfl (by unfold maxLen; omega); have X5 : Ext w4 w5 := ex
    refine wl_y (y_move rfl) rfl ?_
    refine wl_ef (ef_app rfl rfl eltB R5 HB.2 (by rw [List.length_map, HB.1]) (by intro u hu; exact bv_one u hu) (by omega) (by omega) X5.size) rfl ?_
    rintro _ w6 ⟨A8, c8, rfl, R8, be, gr, hl⟩
    have X6 := X5.trans be; rw [List.nil_append] at R8; obtain ⟨g8, _, rfl, _⟩ := R8.get (i := 0) (by omega)
    refine wl_y (y_assign rfl) rfl ?_
    refine wl_nil ?_
    refine wq_then_norm (hK30 ?_)
    refine wc_seq ?_; intro K31 hK31
    refine wc_region ?_
    refine wl_y (y_assign rfl) rfl ?_
    refine wl_nil ?_
    refine wq_then_norm (hK31 ?_)
    refine wc_seq ?_; intro KG0 hKG0
    refine wc_label ?_
    refine wq_then_norm (hKG0 ?_)
    exact hG0 _ _ ⟨0, g6, g7, c7, g8, c8, w4, rfl, rfl, Nat.zero_le _, E4, T64, HW4, X6, R8⟩ ⟨rfl, rfl, rfl, (by first | rfl | exact congrArg some (int_val (by omega))), trivial⟩
end Go.Proofs.Ytjllhimhiekchaa
