/- aes: a key is spread over the rounds. No conditions: contracts of functions. -/
import Derived.Test.YtjllhimhiekchaaAeC
namespace Go.Proofs.Ytjllhimhiekchaa
open Go.RowKit
attribute [local irreducible] Y Ef WL WC WK WQ WM OpM WN WF OpN WJ OpJ
open Ae
namespace Ae
def sub4 (T : List UInt8) (t : List UInt8) (f : Nat) : List UInt8 := [UInt8.ofNat (cell T (cell t 1) ^^^ f), UInt8.ofNat (cell T (cell t 2)), UInt8.ofNat (cell T (cell t 3)), UInt8.ofNat (cell T (cell t 0))]
def nxt (T w : List UInt8) (f : Nat) : List UInt8 := if w.length % 16 = 0 then sub4 T (w.drop (w.length - 4)) f else w.drop (w.length - 4)
def xk (t w : List UInt8) : Nat → List UInt8
  | 0 => t
  | j + 1 => (xk t w j).set j (UInt8.ofNat (cell (xk t w j) j ^^^ cell w (w.length - 16 + j)))
def exs (T key : List UInt8) : Nat → List UInt8 × Nat
  | 0 => (key, 1)
  | i + 1 => ((exs T key i).1 ++ xk (nxt T (exs T key i).1 (exs T key i).2) (exs T key i).1 4, if (exs T key i).1.length % 16 = 0 then tm (exs T key i).2 2 else (exs T key i).2)
theorem xk_length (t w : List UInt8) : ∀ j, (xk t w j).length = t.length
  | 0 => rfl
  | j + 1 => by rw [xk, List.length_set, xk_length t w j]
theorem nxt_length {T w : List UInt8} {f : Nat} (h : 4 ≤ w.length) : (nxt T w f).length = 4 := by
  unfold nxt; split
  · rfl
  · rw [List.length_drop]; omega
theorem exs_length {T key : List UInt8} (hk : key.length = 16) : ∀ i, (exs T key i).1.length = 16 + 4 * i
  | 0 => hk
  | i + 1 => by
    have := exs_length (T := T) hk i
    rw [exs, List.length_append, xk_length, nxt_length (by omega)]; omega
def keys (T key : List UInt8) : List UInt8 := (exs T key 40).1
theorem keys_length {T key : List UInt8} (hk : key.length = 16) : (keys T key).length = 176 := exs_length hk 40
end Ae
theorem bsget {w : World} {g n k : Nat} {xs : List UInt8} (H : Bs w (some ⟨g, 0, none⟩) n xs) (h : k < n) : w.cell? ⟨g, 0 + k, none⟩ = some (.int .u8 ((Ae.cell xs k : Nat) : Int)) := by
  obtain ⟨b', o', e, _, hc⟩ := H.get h
  injection e with e
  injection e with e1 e2 _
  subst e1; subst e2
  rw [hc]; unfold Ae.cell
  rw [List.getD_eq_getElem?_getD, List.getElem?_eq_getElem (by rw [H.1]; exact h)]
  try rfl
  try simp [bv]
theorem bget0 {w : World} {g k : Nat} {t : TypeId} {l : List UInt8} (B : Blk w g t (bys l)) (h : k < l.length) : w.cell? ⟨g, 0 + k, none⟩ = some (.int .u8 ((Ae.cell l k : Nat) : Int)) := by rw [Nat.zero_add]; exact bget B h
theorem sub4_bys (T t : List UInt8) (f : Nat) (hf : f < 256) : (#[.int .u8 ((cell T (cell t 1) ^^^ f : Nat) : Int), .int .u8 ((cell T (cell t 2) : Nat) : Int), .int .u8 ((cell T (cell t 3) : Nat) : Int), .int .u8 ((cell T (cell t 0) : Nat) : Int)] : Array Value) = bys (sub4 T t f) := by
  simp only [bys, sub4, List.map_cons, List.map_nil, bv, u8_ofNat (x8 (c8 _ _) hf), u8_ofNat (c8 _ _)]
theorem rem16 (m : Nat) : ((m : Nat) : Int).tmod 16 = ((m % 16 : Nat) : Int) := by rw [Int.tmod_eq_emod_of_nonneg (by omega)]; omega
set_option maxHeartbeats 1000000 in
theorem aexpand_any {A : Option Addr} {c : Nat} {key T : List UInt8} (w : World) (HA : Bs w A 16 key) (hT : T.length = 256) :
    Calls Try.prog 78 #[.slice A 16 c, .agg (bys T)] w fun e w' => ∃ A' c', e = .returned (.slice A' 176 c') ∧ Row w' w.heap.size 5 A' 176 c' ((keys T key).map bv) ∧ Ext w w' := by
  have E := Ext.refl w
  refine vc_enter1 75 Try.func78 rfl rfl rfl rfl ?_
  intro Q hret
  refine wc_seq ?_; intro K1 hK1
  refine wc_region ?_
  refine wl_ef (ef_box rfl rfl) rfl ?_
  rintro _ wB3 ⟨gB3, rfl, B3, hgB3, ex⟩
  have lB3 := B3.lt; have zB3 := ex.size
  replace HA := HA.ext ex
  replace E := E.ext ex
  refine wl_y (y_assign rfl) rfl ?_
  refine wl_nil ?_
  refine wq_then_norm (hK1 ?_)
  refine wc_seq ?_; intro K2 hK2
  have HA0 := HA; have E0 := E; have B30 := B3
  refine wc_region ?_
  refine wl_ef (ef_lit (z := .int .u8 0) Try.underlying22 (by kernel_rfl) rfl rfl rfl rfl rfl) rfl ?_
  rintro _ w1 ⟨g1, rfl, D1, hg1, ex⟩
  replace HA := HA.ext ex
  replace E := E.ext ex
  replace B3 := B3.ext ex
  have X1 := ex; have R1 : Row w1 wB3.heap.size 5 (some ⟨g1, 0, none⟩) 0 0 [] := Row.new D1 hg1 rfl (by unfold maxLen; omega)
  refine wl_y (y_move rfl) rfl ?_
  refine wl_ef (ef_app rfl rfl eltB R1 HA.2 (by rw [List.length_map, HA.1]) (by intro u hu; exact bv_one u hu) (by omega) (by omega) X1.size) rfl ?_
  rintro _ w2 ⟨A2, c2, rfl, R2, be, gr, hl⟩
  have X2 := X1.trans be; rw [List.nil_append] at R2
  refine wl_y (y_assign rfl) rfl ?_
  refine wl_nil ?_
  refine wq_then_norm (hK2 ?_)
  refine wc_seq ?_; intro K3 hK3
  refine wc_region ?_
  refine wl_y (y_assign rfl) rfl ?_
  refine wl_nil ?_
  refine wq_then_norm (hK3 ?_)
  refine wc_seq ?_; intro K4 hK4
  refine wc_block ?_
  refine wc_loop (fun n' L wr => ∃ (i m c5 : Nat) (A5 : Option Addr), L = [(3, .pointer (some ⟨gB3, 0, none⟩)), (5, .slice A5 m c5), (6, .int .u8 (((exs T key i).2 : Nat) : Int))] ∧ n' = 40 - i ∧ (i ≤ 40 ∧ m = 16 + 4 * i ∧ (exs T key i).2 < 256 ∧ Ext wB3 wr ∧ Row wr wB3.heap.size 5 A5 m c5 ((exs T key i).1.map bv))) _ _ ⟨0, 0 + 16, c2, A2, rfl, rfl, Nat.zero_le _, rfl, (by show 1 < 256; omega), X2, R2⟩ ⟨rfl, rfl, (by first | rfl | exact congrArg some (int_val (by omega))), trivial⟩ ?_
  rintro KL1 n' L wr ⟨i, m, c5, A5, rfl, rfl, hi, hm, hf, X, R⟩ hL1
  refine wc_seq ?_; intro K5 hK5
  refine wc_seq ?_; intro K6 hK6
  refine wc_region ?_
  refine wl_y (y_move rfl) rfl ?_
  refine wl_y (y_len_slice rfl Try.underlying22) rfl ?_
  refine wl_y (y_lss rfl rfl) rfl ?_
  refine wl_nil ?_
  refine wq_then_norm (hK6 ?_)
  refine wc_dec rfl (fun hc1 => ?_) (fun hc1 => ?_)
  · skip
    refine wc_skip ?_
    refine wq_then_norm (hK5 ?_)
    refine wc_block ?_
    refine wc_seq ?_; intro K7 hK7
    have hWl := exs_length (T := T) HA0.1 i
    obtain ⟨W, hW⟩ : ∃ W, W = (exs T key i).1 := ⟨_, rfl⟩
    rw [← hW] at R hWl
    have hmW : m = W.length := by omega
    have BT : Blk wr gB3 98 (bys T) := B30.ext X
    obtain ⟨ts, hts⟩ : ∃ t, t = W.drop (m - 4) := ⟨_, rfl⟩
    refine wc_region ?_
    refine wl_ef (ef_lit (z := .int .u8 0) Try.underlying22 (by kernel_rfl) rfl rfl rfl rfl rfl) rfl ?_
    rintro _ w4 ⟨g4, rfl, D4, hg4, ex⟩
    have Y4 := ex; have R4 : Row w4 wr.heap.size 5 (some ⟨g4, 0, none⟩) 0 0 [] := Row.new D4 hg4 rfl (by unfold maxLen; omega)
    refine wl_y (y_move rfl) rfl ?_
    refine wl_y (y_move rfl) rfl ?_
    refine wl_y (y_len_slice rfl Try.underlying22) rfl ?_
    refine wl_y (y_sub rfl rfl (i64_ok (by omega) (by omega))) rfl ?_
    refine wl_y (y_cutl (s := 1) rfl rfl Try.underlying22 (by kernel_rfl) (j := m - 4) (by omega) (by omega)) rfl ?_
    have HC := (R.ext Y4).bs.cutA (j := m - 4) (by omega) R.cap
    rw [← hts] at HC
    refine wl_ef (ef_app rfl rfl eltB R4 HC.2 (by rw [List.length_map, HC.1]) (by intro u hu; exact bv_one u hu) (by omega) (by omega) Y4.size) rfl ?_
    rintro _ w5 ⟨A6, c6, rfl, R6, be, gr, hl⟩
    have Y5 := Y4.trans be; rw [List.nil_append] at R6; replace R6 := R6.congr (n' := 0 + (m - (m - 4))) rfl rfl; obtain ⟨gt, _, rfl, _⟩ := R6.get (i := 0) (by omega); have H6 := R6.bs; have BT5 := BT.ext Y5
    refine wl_y (y_assign rfl) rfl ?_
    refine wl_nil ?_
    refine wq_then_norm (hK7 ?_)
    refine wc_seq ?_; intro K8 hK8
    refine wc_seq ?_; intro K9 hK9
    refine wc_region ?_
    refine wl_y (y_move rfl) rfl ?_
    refine wl_y (y_len_slice rfl Try.underlying22) rfl ?_
    refine wl_y (y_rem rfl rfl (by omega) (show _ = ((m % 16 : Nat) : Int) from rem16 m)) rfl ?_
    refine wl_y (y_eql rfl rfl) rfl ?_
    refine wl_nil ?_
    refine wq_then_norm (hK9 ?_)
    refine wc_join (fun L wj2 => ∃ (gq nq cq fq : Nat), L = [(3, .pointer (some ⟨gB3, 0, none⟩)), (5, .slice A5 m c5), (6, .int .u8 ((fq : Nat) : Int)), (7, .slice (some ⟨gq, 0, none⟩) nq cq)] ∧ (nq = 4 ∧ fq = (exs T key (i + 1)).2 ∧ fq < 256 ∧ Ext wr wj2 ∧ Row wj2 wr.heap.size 5 (some ⟨gq, 0, none⟩) nq cq ((nxt T W (exs T key i).2).map bv))) ?_ ?_
    · skip
      refine wc_dec rfl (fun hc2 => ?_) (fun hc2 => ?_)
      · skip
        refine wc_seq ?_; intro K10 hK10
        refine wc_draw (by kernel_rfl) 24 rfl ?_; intro wd6 ex hd6
        replace Y5 := Y5.ext ex
        replace R6 := R6.ext ex
        replace H6 := H6.ext ex
        replace BT5 := BT5.ext ex
        refine wm_y 0 rfl (by kernel_rfl) (y_move rfl) rfl ?_
        refine wm_y 1 rfl (by kernel_rfl) (y_ixs1 rfl rfl Try.underlying22 (by kernel_rfl) (j := 1) (by omega) (by omega)) rfl ?_
        refine wm_y 2 rfl (by kernel_rfl) (y_load1 rfl Try.underlying5 rfl (bsget H6 (k := 1) (by omega))) rfl ?_
        refine wm_y 3 rfl (by kernel_rfl) (y_ixa1 rfl rfl Try.underlying98 (by kernel_rfl) (j := cell ts 1) (by omega) (by have := c8 ts 1; omega)) rfl ?_
        refine wm_y 4 rfl (by kernel_rfl) (y_load1 rfl Try.underlying5 rfl (bget0 BT5 (k := cell ts 1) (by rw [hT]; exact c8 _ _))) rfl ?_
        refine wm_y 5 rfl (by kernel_rfl) (y_move rfl) rfl ?_
        refine wm_y 6 rfl (by kernel_rfl) (y_xor rfl rfl ((bits_u8 (c8 _ _) hf).2.2)) rfl ?_
        refine wm_y 7 rfl (by kernel_rfl) (y_move rfl) rfl ?_
        refine wm_y 8 rfl (by kernel_rfl) (y_ixs1 rfl rfl Try.underlying22 (by kernel_rfl) (j := 2) (by omega) (by omega)) rfl ?_
        refine wm_y 9 rfl (by kernel_rfl) (y_load1 rfl Try.underlying5 rfl (bsget H6 (k := 2) (by omega))) rfl ?_
        refine wm_y 10 rfl (by kernel_rfl) (y_ixa1 rfl rfl Try.underlying98 (by kernel_rfl) (j := cell ts 2) (by omega) (by have := c8 ts 2; omega)) rfl ?_
        refine wm_y 11 rfl (by kernel_rfl) (y_load1 rfl Try.underlying5 rfl (bget0 BT5 (k := cell ts 2) (by rw [hT]; exact c8 _ _))) rfl ?_
        refine wm_y 12 rfl (by kernel_rfl) (y_move rfl) rfl ?_
        refine wm_y 13 rfl (by kernel_rfl) (y_ixs1 rfl rfl Try.underlying22 (by kernel_rfl) (j := 3) (by omega) (by omega)) rfl ?_
        refine wm_y 14 rfl (by kernel_rfl) (y_load1 rfl Try.underlying5 rfl (bsget H6 (k := 3) (by omega))) rfl ?_
        refine wm_y 15 rfl (by kernel_rfl) (y_ixa1 rfl rfl Try.underlying98 (by kernel_rfl) (j := cell ts 3) (by omega) (by have := c8 ts 3; omega)) rfl ?_
        refine wm_y 16 rfl (by kernel_rfl) (y_load1 rfl Try.underlying5 rfl (bget0 BT5 (k := cell ts 3) (by rw [hT]; exact c8 _ _))) rfl ?_
        refine wm_y 17 rfl (by kernel_rfl) (y_move rfl) rfl ?_
        refine wm_y 18 rfl (by kernel_rfl) (y_ixs1 rfl rfl Try.underlying22 (by kernel_rfl) (j := 0) (by omega) (by omega)) rfl ?_
        refine wm_y 19 rfl (by kernel_rfl) (y_load1 rfl Try.underlying5 rfl (bsget H6 (k := 0) (by omega))) rfl ?_
        refine wm_y 20 rfl (by kernel_rfl) (y_ixa1 rfl rfl Try.underlying98 (by kernel_rfl) (j := cell ts 0) (by omega) (by have := c8 ts 0; omega)) rfl ?_
        refine wm_y 21 rfl (by kernel_rfl) (y_load1 rfl Try.underlying5 rfl (bget0 BT5 (k := cell ts 0) (by rw [hT]; exact c8 _ _))) rfl ?_
        have hs5 := Y5.size
        refine wm_one 22 (by kernel_rfl) ?_; refine om_ef rfl (ef_lit (z := .int .u8 0) Try.underlying22 (by kernel_rfl) rfl rfl rfl rfl rfl) rfl ?_
        rintro _ w6 ⟨g6, rfl, D6, hg6, ex⟩
        refine ⟨.inr ex, ?_⟩
        replace Y5 := Y5.ext ex
        replace R6 := R6.ext ex
        replace H6 := H6.ext ex
        replace BT5 := BT5.ext ex
        have D6b := D6.congr (sub4_bys T ts _ hf)
        refine wm_y 23 rfl (by kernel_rfl) (y_assign rfl) rfl ?_
        refine wm_done (by kernel_rfl) ?_
        refine wq_nop ?_
        refine wq_then_norm (hK10 ?_)
        refine wc_region ?_
        refine wl_y (y_move rfl) rfl ?_
        refine wl_call Try.func93 rfl rfl rfl (times_any (exs T key i).2 2 hf (by omega) _) rfl ?_
        rintro e w7 ⟨rfl, ht8, ex⟩
        refine ⟨_, rfl, ?_⟩
        replace Y5 := Y5.ext ex
        replace R6 := R6.ext ex
        replace H6 := H6.ext ex
        replace BT5 := BT5.ext ex
        replace D6b := D6b.ext ex
        skip
        refine wl_y (y_assign rfl) rfl ?_
        refine wl_nil ?_
        have hn : nxt T W (exs T key i).2 = sub4 T ts (exs T key i).2 := by unfold nxt; rw [if_pos (by omega), ← hmW, ← hts]
        have he : tm (exs T key i).2 2 = (exs T key (i + 1)).2 := by rw [exs]; exact (if_pos (by rw [← hW]; omega)).symm
        have RT : Row w7 wr.heap.size 5 (some ⟨g6, 0, none⟩) 4 4 ((nxt T W (exs T key i).2).map bv) := by
          rw [hn]
          have := Row.new (base := wr.heap.size) D6b (by omega) (n := 4) rfl (by unfold maxLen; omega)
          simpa [bys] using this
        exact wq_join _ ⟨g6, 4, 4, tm (exs T key i).2 2, rfl, rfl, he, ht8, Y5, RT⟩ ⟨rfl, rfl, (by first | rfl | exact congrArg some (int_val (by omega))), rfl, trivial⟩
      · skip
        refine wc_skip ?_
        have hn : nxt T W (exs T key i).2 = ts := by unfold nxt; rw [if_neg (by omega), ← hmW, ← hts]
        have he : (exs T key i).2 = (exs T key (i + 1)).2 := by rw [exs]; exact (if_neg (by rw [← hW]; omega)).symm
        exact wq_join _ ⟨gt, 0 + (m - (m - 4)), c6, (exs T key i).2, rfl, (by omega), he, hf, Y5, (by rw [hn]; exact R6)⟩ ⟨rfl, rfl, (by first | rfl | exact congrArg some (int_val (by omega))), rfl, trivial⟩
    rintro L wj2 ⟨gq, nq, cq, fq, rfl, hnq, hfq, hf8, Y, RT⟩
    subst hfq
    refine wq_then_norm (hK8 ?_)
    refine wc_seq ?_; intro K11 hK11
    refine wc_seq ?_; intro K12 hK12
    refine wc_region ?_
    refine wl_y (y_move rfl) rfl ?_
    refine wl_y (y_len_slice rfl Try.underlying22) rfl ?_
    refine wl_y (y_move rfl) rfl ?_
    refine wl_nil ?_
    refine wq_then_norm (hK12 ?_)
    refine wc_block ?_
    refine wc_loop (fun n' L ws => ∃ (j : Nat), L = [(3, .pointer (some ⟨gB3, 0, none⟩)), (5, .slice A5 m c5), (6, .int .u8 (((exs T key (i + 1)).2 : Nat) : Int)), (7, .slice (some ⟨gq, 0, none⟩) nq cq), (52, .int .i64 (nq : Int)), (53, .int .i64 (j : Int)), (51, .slice (some ⟨gq, 0, none⟩) nq cq)] ∧ n' = 4 - j ∧ (j ≤ 4 ∧ Ext wr ws ∧ Row ws wr.heap.size 5 (some ⟨gq, 0, none⟩) nq cq ((xk (nxt T W (exs T key i).2) W j).map bv))) _ _ ⟨0, rfl, rfl, Nat.zero_le _, Y, RT⟩ ⟨rfl, rfl, (by first | rfl | exact congrArg some (int_val (by omega))), rfl, (by first | rfl | exact congrArg some (int_val (by omega))), (by first | rfl | exact congrArg some (int_val (by omega))), rfl, trivial⟩ ?_
    rintro KL2 n' L ws ⟨j, rfl, rfl, hj, Z, RJ⟩ hL2
    refine wc_seq ?_; intro K13 hK13
    refine wc_region ?_
    refine wl_y (y_lss rfl rfl) rfl ?_
    refine wl_nil ?_
    refine wq_then_norm (hK13 ?_)
    refine wc_seq ?_; intro K14 hK14
    refine wc_dec rfl (fun hc3 => ?_) (fun hc3 => ?_)
    · skip
      refine wc_skip ?_
      refine wq_then_norm (hK14 ?_)
      refine wc_seq ?_; intro K15 hK15
      refine wc_block ?_
      refine wc_seq ?_; intro K16 hK16
      refine wc_region ?_
      refine wl_y (y_move rfl) rfl ?_
      refine wl_y (y_assign rfl) rfl ?_
      refine wl_nil ?_
      refine wq_then_norm (hK16 ?_)
      obtain ⟨V, hV⟩ : ∃ V, V = xk (nxt T W (exs T key i).2) W j := ⟨_, rfl⟩
      rw [← hV] at RJ
      have HJ := RJ.bs
      have HW := (R.ext Z).bs
      obtain ⟨gw, _, rfl, _⟩ := R.get (i := 0) (by omega)
      refine wc_draw (by kernel_rfl) 15 rfl ?_; intro wd11 ex hd11
      replace Z := Z.ext ex
      replace RJ := RJ.ext ex
      replace HJ := HJ.ext ex
      replace HW := HW.ext ex
      refine wm_z 0 rfl (by kernel_rfl) (fun _ => y_move rfl) rfl ?_
      refine wm_z 1 rfl (by kernel_rfl) (fun _ => y_move rfl) rfl ?_
      refine wm_z 2 rfl (by kernel_rfl) (fun _ => y_ixs1 rfl rfl Try.underlying22 (by kernel_rfl) (j := j) (by omega) (by omega)) rfl ?_
      refine wm_y 3 rfl (by kernel_rfl) (y_load1 rfl Try.underlying5 rfl (bsget HJ (k := j) (by omega))) rfl ?_
      refine wm_z 4 rfl (by kernel_rfl) (fun _ => y_move rfl) rfl ?_
      refine wm_z 5 rfl (by kernel_rfl) (fun _ => y_move rfl) rfl ?_
      refine wm_y 6 rfl (by kernel_rfl) (y_len_slice rfl Try.underlying22) rfl ?_
      refine wm_z 7 rfl (by kernel_rfl) (fun _ => y_sub rfl rfl (i64_ok (by omega) (by omega))) rfl ?_
      refine wm_z 8 rfl (by kernel_rfl) (fun _ => y_move rfl) rfl ?_
      refine wm_z 9 rfl (by kernel_rfl) (fun _ => y_add rfl rfl (i64_ok (by omega) (by omega))) rfl ?_
      refine wm_z 10 rfl (by kernel_rfl) (fun _ => y_ixs1 rfl rfl Try.underlying22 (by kernel_rfl) (j := m - 16 + j) (by omega) (by omega)) rfl ?_
      refine wm_y 11 rfl (by kernel_rfl) (y_load1 rfl Try.underlying5 rfl (bsget HW (k := m - 16 + j) (by omega))) rfl ?_
      refine wm_z 12 rfl (by kernel_rfl) (fun _ => y_xor rfl rfl ((bits_u8 (c8 _ _) (c8 _ _)).2.2)) rfl ?_
      refine wm_z 13 rfl (by kernel_rfl) (fun _ => y_ixs1 rfl rfl Try.underlying22 (by kernel_rfl) (j := j) (by omega) (by omega)) rfl ?_
      refine wm_one 14 (by kernel_rfl) ?_; refine om_ef rfl (ef_storeR rfl rfl rfl (by kernel_rfl) RJ (by omega)) rfl ?_
      rintro _ w11 ⟨rfl, R11, cg⟩
      refine ⟨.inl rfl, ?_⟩
      have Z11 := Z.chg cg (RJ.lt).1; have R12 : Row w11 wr.heap.size 5 (some ⟨gq, 0, none⟩) nq cq ((V.set j (UInt8.ofNat (cell V j ^^^ cell W (m - 16 + j)))).map bv) := (by rw [List.map_set, bv, u8_ofNat (x8 (c8 _ _) (c8 _ _))]; exact R11)
      refine wm_done (by kernel_rfl) ?_
      refine wq_nop ?_
      refine wq_blk_norm ?_
      refine wq_then_norm (hK15 ?_)
      refine wc_region ?_
      refine wl_y (y_add rfl rfl (i64_ok (by omega) (by omega))) rfl ?_
      refine wl_y (y_move rfl) rfl ?_
      refine wl_nil ?_
      refine wq_then_norm ?_
      refine hL2 _ _ ⟨j + 1, rfl, rfl, by omega, Z11, (by rw [xk, ← hV, ← hmW]; exact R12)⟩ (by omega) ⟨rfl, rfl, (by first | rfl | exact congrArg some (int_val (by omega))), rfl, (by first | rfl | exact congrArg some (int_val (by omega))), (by first | rfl | exact congrArg some (int_val (by omega))), rfl, trivial⟩
    · skip
      refine wc_exit ?_
      refine wq_then_exit ?_
      refine wq_then_exit ?_
      refine wq_blk_hit ?_
      refine wq_then_norm (hK11 ?_)
      obtain rfl : j = 4 := by omega
      have e1 : (exs T key (i + 1)).1 = W ++ xk (nxt T W (exs T key i).2) W 4 := by rw [hW]; rfl
      have hxl : (xk (nxt T W (exs T key i).2) W 4).length = 4 := by rw [xk_length, nxt_length (by omega)]
      refine wc_region ?_
      refine wl_y (y_move rfl) rfl ?_
      refine wl_y (y_move rfl) rfl ?_
      refine wl_ef (ef_app rfl rfl eltB (R.ext Z) RJ.at (by rw [List.length_map, hxl]; omega) (by intro u hu; exact bv_one u hu) (by omega) (by omega) (X.ext Z).size) rfl ?_
      rintro _ w13 ⟨A13, c13, rfl, R13, be, gr, hl⟩
      have X13 := (X.ext Z).trans be; have R14 := R13.cat
      refine wl_y (y_assign rfl) rfl ?_
      refine wl_nil ?_
      refine wq_blk_norm ?_
      refine wq_then_norm ?_
      refine hL1 _ _ ⟨i + 1, m + nq, c13, A13, rfl, rfl, by omega, by omega, hf8, X13, (by rw [e1]; exact R14)⟩ (by omega) ⟨rfl, rfl, (by first | rfl | exact congrArg some (int_val (by omega))), trivial⟩
  · skip
    refine wc_exit ?_
    refine wq_then_exit ?_
    refine wq_then_exit ?_
    refine wq_blk_hit ?_
    refine wq_then_norm (hK4 ?_)
    refine wc_seq ?_; intro K17 hK17
    refine wc_region ?_
    refine wl_y (y_move rfl) rfl ?_
    refine wl_y (y_assign rfl) rfl ?_
    refine wl_nil ?_
    refine wq_then_norm (hK17 ?_)
    refine wc_ret ?_
    refine hret rfl ?_
    obtain rfl : i = 40 := by omega
    obtain rfl : m = 176 := by omega
    exact ⟨A5, c5, rfl, R.lower E0.size, E0.ext X⟩
end Go.Proofs.Ytjllhimhiekchaa
