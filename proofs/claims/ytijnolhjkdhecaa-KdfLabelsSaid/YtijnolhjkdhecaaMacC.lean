/- The chapter's example of the tag; mac.Is. Lengths up to 2^45. -/
import Derived.Test.YtijnolhjkdhecaaMacB
import Derived.Test.YtijnolhjkdhecaaSame
namespace Go.Proofs.Ytijnolhjkdhecaa
open Go.RowKit
attribute [local irreducible] Y Ef WL WC WK WQ WM OpM
theorem macIs_any (T A B : Option Addr) (q r n c m d : Nat) (ts xs : List UInt8) (xss : List (List UInt8)) (w : World) (HT : Bs w T q ts) (hq : q ≤ 35184372088832) (HA : Bs w A n xs) (hn : n ≤ 35184372088832) (HB : Bss w B m xss) (hm : m ≤ 35184372088832) (hl : xss.flatten.length ≤ 35184372088000) :
    Calls Try.prog 24 #[.slice T q r, .slice A n c, .slice B m d] w fun e w' => e = .returned (.bool (decide (ts = Mac.tag xs xss.flatten))) ∧ Ext w w' := by
  have E := Ext.refl w
  refine vc_enter1 12 Try.func24 rfl rfl rfl rfl ?_
  intro Q hret
  refine wc_seq ?_; intro K1 hK1
  refine wc_region ?_
  refine wl_y (y_assign rfl) rfl ?_
  refine wl_nil ?_
  refine wq_then_norm (hK1 ?_)
  refine wc_seq ?_; intro K2 hK2
  refine wc_region ?_
  refine wl_y (y_move rfl) rfl ?_
  refine wl_y (y_move rfl) rfl ?_
  refine wl_y (y_move rfl) rfl ?_
  refine wl_call Try.func22 rfl rfl rfl (tag_any A B n c m d xs xss _ HA hn HB hm hl) rfl ?_
  rintro e w1 ⟨g1, rfl, hg1, B1, ex⟩
  refine ⟨_, rfl, ?_⟩
  replace HT := HT.ext ex
  replace E := E.ext ex
  have H1 := bs_blk' B1 (Mac.tag_length _ _)
  refine wl_call Try.func21 rfl rfl rfl (macSame_any T _ q 32 r 32 ts _ _ HT H1 (by omega) (by omega)) rfl ?_
  rintro e w2 ⟨rfl, ex⟩
  refine ⟨_, rfl, ?_⟩
  replace HT := HT.ext ex
  replace E := E.ext ex
  replace H1 := H1.ext ex
  skip
  refine wl_y (y_assign rfl) rfl ?_
  refine wl_nil ?_
  refine wq_then_norm (hK2 ?_)
  refine wc_ret ?_
  refine hret rfl ?_
  exact ⟨rfl, E⟩
theorem jefe : (Mac.tag [74, 101, 102, 101] ([[119, 104, 97, 116, 32, 100, 111, 32, 121, 97, 32, 119, 97, 110, 116, 32], [102, 111, 114, 32, 110, 111, 116, 104, 105, 110, 103, 63]] : List (List UInt8)).flatten).take 4 = [0x5b, 0xdc, 0xc1, 0x46] := by decide +kernel
theorem jefe_get (i : Nat) (h : i < 4) : (bys (Mac.tag [74, 101, 102, 101] ([[119, 104, 97, 116, 32, 100, 111, 32, 121, 97, 32, 119, 97, 110, 116, 32], [102, 111, 114, 32, 110, 111, 116, 104, 105, 110, 103, 63]] : List (List UInt8)).flatten))[i]? = some (.int .u8 (([0x5b, 0xdc, 0xc1, 0x46] : List UInt8).getD i 0).toNat) := by
  rw [bys_get (by rw [Mac.tag_length]; omega), ← jefe]
  simp [List.getElem?_take, h]
theorem alive4_any (w : World) : Calls Try.prog 20 #[] w fun e w' => e = .returned (.bool true) ∧ Ext w w' := by
  have E := Ext.refl w
  refine vc_enter1 37 Try.func20 rfl rfl rfl rfl ?_
  intro Q hret
  refine wc_seq ?_; intro K1 hK1
  refine wc_region ?_
  refine wl_y (y_assign rfl) rfl ?_
  refine wl_nil ?_
  refine wq_then_norm (hK1 ?_)
  refine wc_seq ?_; intro K2 hK2
  refine wc_region ?_
  refine wl_ef (ef_litX (z := .int .u8 0) Try.underlying22 (by kernel_rfl) rfl rfl rfl rfl rfl) rfl ?_
  rintro _ _ ⟨rfl, rfl⟩
  skip
  refine wl_ef (ef_mark rfl Try.underlying22 Try.underlying5) rfl ?_
  rintro _ w1 ⟨rfl, hw1⟩
  have ex := show Ext w w1 from by rw [hw1]; exact Ext.alloc _ _
  replace E := E.ext ex
  have S1 : Bs w1 (some ⟨w.heap.size, 0, none⟩) 4 [74, 101, 102, 101] := by rw [hw1]; exact bs_marked (cs := [.int .u8 74, .int .u8 101, .int .u8 102, .int .u8 101]) rfl
  clear hw1 
  refine wl_ef (ef_litX (z := .int .u8 0) Try.underlying22 (by kernel_rfl) rfl rfl rfl rfl rfl) rfl ?_
  rintro _ _ ⟨rfl, rfl⟩
  skip
  refine wl_ef (ef_mark rfl Try.underlying22 Try.underlying5) rfl ?_
  rintro _ w2 ⟨rfl, hw2⟩
  have ex := show Ext w1 w2 from by rw [hw2]; exact Ext.alloc _ _
  replace E := E.ext ex
  replace S1 := S1.ext ex
  have S2 : Bs w2 (some ⟨w1.heap.size, 0, none⟩) 16 [119, 104, 97, 116, 32, 100, 111, 32, 121, 97, 32, 119, 97, 110, 116, 32] := by rw [hw2]; exact bs_marked (cs := [.int .u8 119, .int .u8 104, .int .u8 97, .int .u8 116, .int .u8 32, .int .u8 100, .int .u8 111, .int .u8 32, .int .u8 121, .int .u8 97, .int .u8 32, .int .u8 119, .int .u8 97, .int .u8 110, .int .u8 116, .int .u8 32]) rfl
  clear hw2 
  refine wl_ef (ef_litX (z := .int .u8 0) Try.underlying22 (by kernel_rfl) rfl rfl rfl rfl rfl) rfl ?_
  rintro _ _ ⟨rfl, rfl⟩
  skip
  refine wl_ef (ef_mark rfl Try.underlying22 Try.underlying5) rfl ?_
  rintro _ w3 ⟨rfl, hw3⟩
  have ex := show Ext w2 w3 from by rw [hw3]; exact Ext.alloc _ _
  replace E := E.ext ex
  replace S1 := S1.ext ex
  replace S2 := S2.ext ex
  have S3 : Bs w3 (some ⟨w2.heap.size, 0, none⟩) 12 [102, 111, 114, 32, 110, 111, 116, 104, 105, 110, 103, 63] := by rw [hw3]; exact bs_marked (cs := [.int .u8 102, .int .u8 111, .int .u8 114, .int .u8 32, .int .u8 110, .int .u8 111, .int .u8 116, .int .u8 104, .int .u8 105, .int .u8 110, .int .u8 103, .int .u8 63]) rfl
  clear hw3 
  refine wl_ef (ef_lit (z := .slice none 0 0) Try.underlying36 (by kernel_rfl) rfl rfl rfl rfl rfl) rfl ?_
  rintro _ w4 ⟨g4, rfl, B4, hg4, ex⟩
  replace E := E.ext ex
  replace S1 := S1.ext ex
  replace S2 := S2.ext ex
  replace S3 := S3.ext ex
  have S4 := bss_two B4 S2 S3
  refine wl_call Try.func22 rfl rfl rfl (tag_any _ _ 4 4 2 2 [74, 101, 102, 101] _ _ S1 (by omega) S4 (by omega) (by simp)) rfl ?_
  rintro e w5 ⟨g5, rfl, hg5, B5, ex⟩
  refine ⟨_, rfl, ?_⟩
  replace E := E.ext ex
  replace S1 := S1.ext ex
  replace S2 := S2.ext ex
  replace S3 := S3.ext ex
  skip
  refine wl_y (y_assign rfl) rfl ?_
  refine wl_nil ?_
  refine wq_then_norm (hK2 ?_)
  refine wc_seq ?_; intro K3 hK3
  refine wc_region ?_
  refine wl_y (y_move rfl) rfl ?_
  refine wl_y (y_len_slice rfl Try.underlying22) rfl ?_
  refine wl_y (Y.as (y_eql rfl rfl) (congrArg Value.bool (decide_eq_true rfl))) rfl ?_
  refine wl_y (y_move rfl) rfl ?_
  refine wl_gy 13 rfl rfl (y_move rfl) rfl ?_
  refine wl_gy 13 rfl rfl (y_ixs1 rfl rfl Try.underlying22 (by kernel_rfl) (j := 0) rfl (by omega)) rfl ?_
  refine wl_gy 13 rfl rfl (y_load1 rfl Try.underlying5 rfl (B5.get (i := 0 + 0) (jefe_get 0 (by omega)))) rfl ?_
  refine wl_gy 13 rfl rfl (Y.as (y_eql rfl rfl) (congrArg Value.bool (decide_eq_true rfl))) rfl ?_
  refine wl_y (y_pickt rfl rfl) rfl ?_
  refine wl_y (y_move rfl) rfl ?_
  refine wl_gy 19 rfl rfl (y_move rfl) rfl ?_
  refine wl_gy 19 rfl rfl (y_ixs1 rfl rfl Try.underlying22 (by kernel_rfl) (j := 1) rfl (by omega)) rfl ?_
  refine wl_gy 19 rfl rfl (y_load1 rfl Try.underlying5 rfl (B5.get (i := 0 + 1) (jefe_get 1 (by omega)))) rfl ?_
  refine wl_gy 19 rfl rfl (Y.as (y_eql rfl rfl) (congrArg Value.bool (decide_eq_true rfl))) rfl ?_
  refine wl_y (y_pickt rfl rfl) rfl ?_
  refine wl_y (y_move rfl) rfl ?_
  refine wl_gy 25 rfl rfl (y_move rfl) rfl ?_
  refine wl_gy 25 rfl rfl (y_ixs1 rfl rfl Try.underlying22 (by kernel_rfl) (j := 2) rfl (by omega)) rfl ?_
  refine wl_gy 25 rfl rfl (y_load1 rfl Try.underlying5 rfl (B5.get (i := 0 + 2) (jefe_get 2 (by omega)))) rfl ?_
  refine wl_gy 25 rfl rfl (Y.as (y_eql rfl rfl) (congrArg Value.bool (decide_eq_true rfl))) rfl ?_
  refine wl_y (y_pickt rfl rfl) rfl ?_
  refine wl_y (y_move rfl) rfl ?_
  refine wl_gy 31 rfl rfl (y_move rfl) rfl ?_
  refine wl_gy 31 rfl rfl (y_ixs1 rfl rfl Try.underlying22 (by kernel_rfl) (j := 3) rfl (by omega)) rfl ?_
  refine wl_gy 31 rfl rfl (y_load1 rfl Try.underlying5 rfl (B5.get (i := 0 + 3) (jefe_get 3 (by omega)))) rfl ?_
  refine wl_gy 31 rfl rfl (Y.as (y_eql rfl rfl) (congrArg Value.bool (decide_eq_true rfl))) rfl ?_
  refine wl_y (y_pickt rfl rfl) rfl ?_
  refine wl_y (y_assign rfl) rfl ?_
  refine wl_nil ?_
  refine wq_then_norm (hK3 ?_)
  refine wc_ret ?_
  refine hret rfl ?_
  exact ⟨rfl, E⟩
end Go.Proofs.Ytijnolhjkdhecaa
