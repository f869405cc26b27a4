/- gcm: bytes of pairs; a block's mask. No conditions: contracts of functions. -/
import Derived.Test.YtjllhimhiekchaaGmB
namespace Go.Proofs.Ytjllhimhiekchaa
open Go.RowKit
attribute [local irreducible] Y Ef WL WC WK WQ WM OpM WN WF OpN WJ OpJ
open Ae Gm
namespace Gm
def pb (a b : Nat) : Nat → List UInt8
  | 0 => List.replicate 16 0
  | i + 1 => ((pb a b i).set i (UInt8.ofNat (a / 2 ^ (56 - 8 * i)))).set (8 + i) (UInt8.ofNat (b / 2 ^ (56 - 8 * i)))
theorem pb_length (a b : Nat) : ∀ i, (pb a b i).length = 16
  | 0 => by rw [pb, List.length_replicate]
  | i + 1 => by rw [pb, List.length_set, List.length_set, pb_length a b i]
theorem convb (x : Nat) : IntKind.u8.wrap ((x : Nat) : Int) = ((UInt8.ofNat x).toNat : Int) := by rw [IntKind.wrap_u8', UInt8.toNat_ofNat']; omega
end Gm
theorem pbytes_any (a b : Nat) (w : World) :
    Calls Try.prog 64 #[.agg (pv a b)] w fun e w' => ∃ g, e = .returned (.slice (some ⟨g, 0, none⟩) 16 16) ∧ w.heap.size ≤ g ∧ Blk w' g 5 (bys (pb a b 8)) ∧ Ext w w' := by
  have F := Chs.refl [] w
  refine vc_enter1 32 Try.func64 rfl rfl rfl rfl ?_
  intro Q hret
  refine wc_seq ?_; intro K1 hK1
  refine wc_region ?_
  refine wl_ef (ef_box rfl rfl) rfl ?_
  rintro _ wB1 ⟨gB1, rfl, B1, hgB1, ex⟩
  have lB1 := B1.lt; have zB1 := ex.size
  replace F := F.ext ex
  refine wl_y (y_assign rfl) rfl ?_
  refine wl_nil ?_
  refine wq_then_norm (hK1 ?_)
  refine wc_seq ?_; intro K2 hK2
  have BP : Blk _ gB1 77 (pv a b) := B1
  have hs1 := F.size
  refine wc_region ?_
  refine wl_ef (ef_make (n := 16) (z := .int .u8 0) (bytes := 1) rfl rfl Try.underlying22 (by kernel_rfl) rfl rfl rfl rfl (by omega) (by omega)) rfl ?_
  rintro _ w1 ⟨g3, rfl, D3, hg3, ex⟩
  replace F := F.ext ex
  replace B1 := B1.ext ex
  have FF : Chs [g3] w w1 := F.mono (by simp); have BT := D3.congr (cs' := bys (List.replicate 16 0)) (by kernel_rfl); have hl1 := B1.lt
  refine wl_y (y_assign rfl) rfl ?_
  refine wl_nil ?_
  refine wq_then_norm (hK2 ?_)
  refine wc_seq ?_; intro K3 hK3
  refine wc_seq ?_; intro K4 hK4
  refine wc_region ?_
  refine wl_y (y_move rfl) rfl ?_
  refine wl_nil ?_
  refine wq_then_norm (hK4 ?_)
  refine wc_block ?_
  refine wc_loop (fun n' L wr => ∃ (i : Nat), L = [(1, .pointer (some ⟨gB1, 0, none⟩)), (3, .slice (some ⟨g3, 0, none⟩) 16 16), (6, .int .i64 (i : Int))] ∧ n' = 8 - i ∧ (i ≤ 8 ∧ Chs [g3] w wr ∧ Blk wr gB1 77 (pv a b) ∧ Blk wr g3 5 (bys (pb a b i)))) _ _ ⟨0, rfl, rfl, Nat.zero_le _, FF, B1, BT⟩ ⟨rfl, rfl, (by first | rfl | exact congrArg some (int_val (by omega))), trivial⟩ ?_
  rintro KL1 n' L wr ⟨i, rfl, rfl, hi, F, B1, BT⟩ hL1
  refine wc_seq ?_; intro K5 hK5
  refine wc_region ?_
  refine wl_y (y_lss rfl rfl) rfl ?_
  refine wl_nil ?_
  refine wq_then_norm (hK5 ?_)
  refine wc_seq ?_; intro K6 hK6
  refine wc_dec rfl (fun hc1 => ?_) (fun hc1 => ?_)
  · skip
    refine wc_skip ?_
    refine wq_then_norm (hK6 ?_)
    refine wc_seq ?_; intro K7 hK7
    refine wc_block ?_
    refine wc_seq ?_; intro K8 hK8
    refine wc_region ?_
    refine wl_y (y_move rfl) rfl ?_
    refine wl_y (y_assign rfl) rfl ?_
    refine wl_nil ?_
    refine wq_then_norm (hK8 ?_)
    have hbl := pb_length a b i
    refine wc_drawJ [(20, [g3]), (22, [g3])] (by kernel_rfl) 23 rfl ?_; intro wd5 ex hd5
    replace F := F.ext ex
    replace B1 := B1.ext ex
    replace BT := BT.ext ex
    refine wj_y 0 [] rfl (by kernel_rfl) (fun wr (cr : Chs ([]) _ wr) => y_move rfl) rfl ?_
    refine wj_y 1 [] rfl (by kernel_rfl) (fun wr (cr : Chs ([]) _ wr) => y_move rfl) rfl ?_
    refine wj_y 2 [20] rfl (by kernel_rfl) (fun wr (cr : Chs ([g3]) _ wr) => y_move rfl) rfl ?_
    refine wj_y 3 [20] rfl (by kernel_rfl) (fun wr (cr : Chs ([g3]) _ wr) => y_move rfl) rfl ?_
    refine wj_y 4 [20] rfl (by kernel_rfl) (fun wr (cr : Chs ([g3]) _ wr) => y_add rfl rfl (i64_ok (by omega) (by omega))) rfl ?_
    refine wj_y 5 [] rfl (by kernel_rfl) (fun wr (cr : Chs ([]) _ wr) => y_fieldAddr (o := 0) (s := 1) (off := 0) (o' := 0) rfl Try.underlying77 rfl (by kernel_rfl) rfl rfl) rfl ?_
    refine wj_y 6 [] rfl (by kernel_rfl) (fun wr (cr : Chs ([]) _ wr) => y_load1 rfl Try.underlying52 rfl ((B1.chs cr).get (i := 0) rfl)) rfl ?_
    refine wj_y 7 [] rfl (by kernel_rfl) (fun wr (cr : Chs ([]) _ wr) => y_move rfl) rfl ?_
    refine wj_y 8 [] rfl (by kernel_rfl) (fun wr (cr : Chs ([]) _ wr) => y_mul rfl rfl (i64_ok (by omega) (by omega))) rfl ?_
    refine wj_y 9 [] rfl (by kernel_rfl) (fun wr (cr : Chs ([]) _ wr) => y_sub rfl rfl (i64_ok (by omega) (by omega))) rfl ?_
    refine wj_y 10 [] rfl (by kernel_rfl) (fun wr (cr : Chs ([]) _ wr) => y_shr rfl rfl (by omega) (shrn a (56 - 8 * i) (by omega) (by omega))) rfl ?_
    refine wj_y 11 [] rfl (by kernel_rfl) (fun wr (cr : Chs ([]) _ wr) => y_conv rfl Try.underlying52 Try.underlying5 (convb _)) rfl ?_
    refine wj_y 12 [20] rfl (by kernel_rfl) (fun wr (cr : Chs ([g3]) _ wr) => y_fieldAddr (o := 1) (s := 1) (off := 0) (o' := 1) rfl Try.underlying77 rfl (by kernel_rfl) rfl rfl) rfl ?_
    refine wj_y 13 [20] rfl (by kernel_rfl) (fun wr (cr : Chs ([g3]) _ wr) => y_load1 rfl Try.underlying52 rfl ((B1.chs cr).get (i := 1) rfl)) rfl ?_
    refine wj_y 14 [20] rfl (by kernel_rfl) (fun wr (cr : Chs ([g3]) _ wr) => y_move rfl) rfl ?_
    refine wj_y 15 [20] rfl (by kernel_rfl) (fun wr (cr : Chs ([g3]) _ wr) => y_mul rfl rfl (i64_ok (by omega) (by omega))) rfl ?_
    refine wj_y 16 [20] rfl (by kernel_rfl) (fun wr (cr : Chs ([g3]) _ wr) => y_sub rfl rfl (i64_ok (by omega) (by omega))) rfl ?_
    refine wj_y 17 [20] rfl (by kernel_rfl) (fun wr (cr : Chs ([g3]) _ wr) => y_shr rfl rfl (by omega) (shrn b (56 - 8 * i) (by omega) (by omega))) rfl ?_
    refine wj_y 18 [20] rfl (by kernel_rfl) (fun wr (cr : Chs ([g3]) _ wr) => y_conv rfl Try.underlying52 Try.underlying5 (convb _)) rfl ?_
    refine wj_y 19 [] rfl (by kernel_rfl) (fun wr (cr : Chs ([]) _ wr) => y_ixs1 rfl rfl Try.underlying22 (by kernel_rfl) (j := i) (by omega) (by omega)) rfl ?_
    refine wj_one 20 (by kernel_rfl) ?_; refine oj_ef rfl (ef_storeB rfl rfl rfl (by kernel_rfl) BT (by simp only [bys_size, List.length_set]; omega)) rfl ?_
    rintro _ wa ⟨rfl, DA, cg⟩
    have ex := Chs.one cg
    refine ⟨ex, ?_⟩
    clear cg; rw [bys_put, Nat.zero_add] at DA
    replace F := F.chs ex
    replace B1 := B1.chs ex
    have BT := DA
    refine wj_y 21 [] rfl (by kernel_rfl) (fun wr (cr : Chs ([]) _ wr) => y_ixs1 rfl rfl Try.underlying22 (by kernel_rfl) (j := 8 + i) (by omega) (by omega)) rfl ?_
    refine wj_one 22 (by kernel_rfl) ?_; refine oj_ef rfl (ef_storeB rfl rfl rfl (by kernel_rfl) BT (by simp only [bys_size, List.length_set]; omega)) rfl ?_
    rintro _ wb ⟨rfl, DB, cg⟩
    have ex := Chs.one cg
    refine ⟨ex, ?_⟩
    clear cg; rw [bys_put, Nat.zero_add] at DB
    replace F := F.chs ex
    replace B1 := B1.chs ex
    have BT := DB
    refine wj_done (by kernel_rfl) ?_
    refine wq_nop ?_
    refine wq_blk_norm ?_
    refine wq_then_norm (hK7 ?_)
    refine wc_region ?_
    refine wl_y (y_add rfl rfl (i64_ok (by omega) (by omega))) rfl ?_
    refine wl_y (y_move rfl) rfl ?_
    refine wl_nil ?_
    refine wq_then_norm ?_
    refine hL1 _ _ ⟨i + 1, rfl, rfl, by omega, F, B1, (by rw [pb]; first | exact BT | (rw [List.set_comm _ _ (by omega)]; exact BT))⟩ (by omega) ⟨rfl, rfl, (by first | rfl | exact congrArg some (int_val (by omega))), trivial⟩
  · skip
    refine wc_exit ?_
    refine wq_then_exit ?_
    refine wq_then_exit ?_
    refine wq_blk_hit ?_
    refine wq_then_norm (hK3 ?_)
    refine wc_seq ?_; intro K9 hK9
    refine wc_region ?_
    refine wl_y (y_move rfl) rfl ?_
    refine wl_y (y_assign rfl) rfl ?_
    refine wl_nil ?_
    refine wq_then_norm (hK9 ?_)
    refine wc_ret ?_
    refine hret rfl ?_
    obtain rfl : i = 8 := by omega
    exact ⟨g3, rfl, by omega, BT, F.drop (by omega) |>.toExt (by simp)⟩
namespace Gm
def ctr (nn : List UInt8) (n : Nat) : List UInt8 := nn ++ [UInt8.ofNat (n / 16777216), UInt8.ofNat (n / 65536), UInt8.ofNat (n / 256), UInt8.ofNat n]
def msk (key nn : List UInt8) (n : Nat) : List UInt8 := enc key (ctr nn n)
theorem s24 (n : Nat) : ((n : Nat) : Int) / 2 ^ min (24 : Int).toNat IntKind.u32.bits = ((n / 16777216 : Nat) : Int) := by
  show ((n : Int) / 2 ^ 24 : Int) = _
  omega
theorem s16 (n : Nat) : ((n : Nat) : Int) / 2 ^ min (16 : Int).toNat IntKind.u32.bits = ((n / 65536 : Nat) : Int) := by
  show ((n : Int) / 2 ^ 16 : Int) = _
  omega
theorem s8 (n : Nat) : ((n : Nat) : Int) / 2 ^ min (8 : Int).toNat IntKind.u32.bits = ((n / 256 : Nat) : Int) := by
  show ((n : Int) / 2 ^ 8 : Int) = _
  omega
end Gm
theorem gmask_any {A B : Option Addr} {c d n : Nat} {key nn : List UInt8} (w : World) (HA : Bs w A 16 key) (HB : Bs w B 12 nn) :
    Calls Try.prog 63 #[.slice A 16 c, .slice B 12 d, .int .u32 (n : Int)] w fun e w' => ∃ A' c', e = .returned (.slice A' 16 c') ∧ Row w' w.heap.size 5 A' 16 c' ((msk key nn n).map bv) ∧ Ext w w' := by
  have E := Ext.refl w
  have HA0 := HA
  refine vc_enter1 30 Try.func63 rfl rfl rfl rfl ?_
  intro Q hret
  refine wc_seq ?_; intro K1 hK1
  refine wc_region ?_
  refine wl_y (y_assign rfl) rfl ?_
  refine wl_nil ?_
  refine wq_then_norm (hK1 ?_)
  refine wc_seq ?_; intro K2 hK2
  refine wc_region ?_
  refine wl_y (y_move rfl) rfl ?_
  refine wl_y (y_move rfl) rfl ?_
  refine wl_call Try.func65 rfl rfl rfl (clone_any B 12 d nn _ HB (by omega)) rfl ?_
  rintro e w1 ⟨A1, c1, rfl, O1, ex⟩
  refine ⟨_, rfl, ?_⟩
  replace HA := HA.ext ex
  replace HB := HB.ext ex
  replace E := E.ext ex
  have R1 : Row w1 w.heap.size 5 A1 12 c1 (nn.map bv) := O1
  refine wl_y (y_move rfl) rfl ?_
  refine wl_y (y_shr rfl rfl (by omega) (s24 n)) rfl ?_
  refine wl_y (y_conv rfl Try.underlying85 Try.underlying5 (convb _)) rfl ?_
  refine wl_y (y_move rfl) rfl ?_
  refine wl_y (y_shr rfl rfl (by omega) (s16 n)) rfl ?_
  refine wl_y (y_conv rfl Try.underlying85 Try.underlying5 (convb _)) rfl ?_
  refine wl_y (y_move rfl) rfl ?_
  refine wl_y (y_shr rfl rfl (by omega) (s8 n)) rfl ?_
  refine wl_y (y_conv rfl Try.underlying85 Try.underlying5 (convb _)) rfl ?_
  refine wl_y (y_move rfl) rfl ?_
  refine wl_y (y_conv rfl Try.underlying85 Try.underlying5 (convb _)) rfl ?_
  refine wl_ef (ef_lit (z := .int .u8 0) Try.underlying22 (by kernel_rfl) rfl rfl rfl rfl rfl) rfl ?_
  rintro _ w2 ⟨g2, rfl, D2, hg2, ex⟩
  replace HA := HA.ext ex
  replace HB := HB.ext ex
  replace E := E.ext ex
  replace R1 := R1.ext ex
  have hs2 := E.size
  refine wl_ef (ef_app rfl rfl eltB R1 (At.blk (vs := [UInt8.ofNat (n / 16777216), UInt8.ofNat (n / 65536), UInt8.ofNat (n / 256), UInt8.ofNat n].map bv) (D2.congr (by rfl))) rfl (by intro u hu; exact bv_one u hu) (by omega) (by omega) hs2) rfl ?_
  rintro _ w3 ⟨A3, c3, rfl, R3, be, gr, hl⟩
  have E3 := E.trans be; have R4 := R3.cat; have H4 : Bs w3 A3 16 (ctr nn n) := R4.bs; have HA3 := HA0.wk E3
  refine wl_call Try.func58 rfl rfl rfl (ablock_any _ HA3 H4) rfl ?_
  rintro e w4 ⟨A5, c5, rfl, R5, ex⟩
  refine ⟨_, rfl, ?_⟩
  have E4 := E3.ext ex
  refine wl_y (y_move rfl) rfl ?_
  refine wl_y (y_extract rfl rfl) rfl ?_
  refine wl_y (y_extract rfl rfl) rfl ?_
  refine wl_y (y_assign rfl) rfl ?_
  refine wl_y (y_assign rfl) rfl ?_
  refine wl_nil ?_
  refine wq_then_norm (hK2 ?_)
  refine wc_seq ?_; intro K3 hK3
  refine wc_region ?_
  refine wl_y (y_move rfl) rfl ?_
  refine wl_y (y_assign rfl) rfl ?_
  refine wl_nil ?_
  refine wq_then_norm (hK3 ?_)
  refine wc_ret ?_
  refine hret rfl ?_
  exact ⟨A5, c5, rfl, R5.lower E3.size, E4⟩
end Go.Proofs.Ytjllhimhiekchaa
