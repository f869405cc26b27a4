/- The field's Pow, Inv, Root, and bytes.Repeat of one byte: what each hands back. The field's power, Pow, Inv, Root: what each hands back. -/
import Derived.Test.YtjllhimhiekchaaGreatFieldB
import Derived.Test.YtjllhimhiekchaaGreatFieldS
import Derived.Test.YtjllhimhiekchaaGreatFieldK
import Derived.Test.YtjllhimhiekchaaGreatVc7
/- The field's numbers of bytes: Of: what it hands back. -/
namespace Go.Proofs.YtjllhimhiekchaaGreat
open Go.RowKit
attribute [local irreducible] Y Ef WL WC WK WQ WM OpM
theorem shrc (x k c : Nat) (h : (2 : Int) ^ (min (k : Int).toNat IntKind.u64.bits) = (c : Int)) : (x : Int) / 2 ^ (min (k : Int).toNat IntKind.u64.bits) = ((x / c : Nat) : Int) := by
 rw [h]; exact (Int.natCast_ediv _ _).symm
theorem shl8 (x : Nat) (hx : x * 256 < 18446744073709551616) : IntKind.u64.wrap ((x : Int) * 2 ^ (min (8 : Int).toNat IntKind.u64.bits)) = ((x * 256 : Nat) : Int) := by
 rw [show (2 : Int) ^ (min (8 : Int).toNat IntKind.u64.bits) = 256 from rfl]
 exact u64_nat (by omega) hx
theorem or8 (a b : Nat) (hb : b < 256) (ha : a * 256 < 18446744073709551616) : bits .or .u64 ((a * 256 : Nat) : Int) (b : Int) = ((a * 256 + b : Nat) : Int) := by
 have h := (bits_u64 (p := a * 256) (q := b) ha (by omega)).2.1
 rw [h, show a * 256 = 2 ^ 8 * a by omega, Nat.two_pow_add_eq_or_of_lt (show b < 2 ^ 8 from hb)]
theorem ofw_any (g o : Nat) (t : TypeId) (X : List UInt8) (w : World) (B : Blk w g t (bys X)) (hX : X.length = 32) (ho : o + 8 ≤ 32) :
  Calls Tryz.prog 244 #[.int .i64 (o : Int), .pointer (some ⟨g, 0, none⟩)] w fun e w' => e = .returned (.int .u64 ((Fp.word X o : Nat) : Int)) ∧ Ext w w' := by
 refine vc_enter1 20 Tryz.func244 rfl rfl rfl rfl ?_
 intro Q hret
 refine wc_seq ?_; intro K1 hK1
 refine wc_region ?_
 refine wl_y (y_assign rfl) rfl ?_
 refine wl_nil ?_
 refine wq_then_norm (hK1 ?_)
 refine wc_seq ?_; intro K2 hK2
 refine wc_region ?_
 refine wl_y (y_assign rfl) rfl ?_
 refine wl_nil ?_
 refine wq_then_norm (hK2 ?_)
 refine wc_seq ?_; intro K3 hK3
 refine wc_seq ?_; intro K4 hK4
 refine wc_region ?_
 refine wl_y (y_assign rfl) rfl ?_
 refine wl_nil ?_
 refine wq_then_norm (hK4 ?_)
 refine wc_block ?_
 refine wc_loop (fun n' L wr => ∃ j x : Nat, L = [(0, .int .i64 (o : Int)), (1, .pointer (some ⟨g, 0, none⟩)), (4, .int .u64 (x : Int)), (5, .int .i64 ((j : Int) - 1))] ∧ n' = 1 + j ∧ (j ≤ 8 ∧ wr = w ∧ x = Fp.num ((X.drop (o + j)).take (8 - j)))) _ _ ⟨8, 0, rfl, rfl, by omega, rfl, by simp [Fp.num]⟩ ⟨(by first | rfl | exact congrArg some (int_val (by omega))), rfl, (by first | rfl | exact congrArg some (int_val (by omega))), (by first | rfl | exact congrArg some (int_val (by omega))), trivial⟩ ?_
 rintro KL1 n' L wr ⟨j, x, rfl, rfl, hj, rfl, hx⟩ hL1
 refine wc_seq ?_; intro K5 hK5
 refine wc_seq ?_; intro K6 hK6
 refine wc_region ?_
 refine wl_y (y_move rfl) rfl ?_
 refine wl_y (y_geq rfl rfl) rfl ?_
 refine wl_nil ?_
 refine wq_then_norm (hK6 ?_)
 refine wc_dec rfl (fun hc1 => ?_) (fun hc1 => ?_)
 ·skip
  refine wc_skip ?_
  refine wq_then_norm (hK5 ?_)
  refine wc_seq ?_; intro K7 hK7
  refine wc_block ?_
  obtain ⟨j, rfl⟩ : ∃ i, j = i + 1 := ⟨j - 1, by omega⟩
  rw [show (((j + 1 : Nat) : Int) - 1) = (j : Int) by omega]
  have hst := Fp.word_step X o j (by omega) (by omega)
  have hlt := Fp.part_lt X o (j + 1) (by omega)
  have hp : 256 ^ (8 - (j + 1)) ≤ 256 ^ 7 := Nat.pow_le_pow_right (by omega) (by omega)
  rw [← hx] at hst hlt
  obtain ⟨b, hb⟩ : ∃ b, b = (X.getD (o + j) 0).toNat := ⟨_, rfl⟩
  have hbl : b < 256 := by rw [hb]; exact UInt8.toNat_lt _
  rw [← hb] at hst
  have hx7 : x < 72057594037927936 := by omega
  refine wc_region ?_
  refine wl_y (y_move rfl) rfl ?_
  refine wl_y (y_shl rfl rfl (by omega) (shl8 x (by omega))) rfl ?_
  refine wl_y (y_move rfl) rfl ?_
  refine wl_y (y_move rfl) rfl ?_
  refine wl_y (y_add rfl rfl (i64_ok (by omega) (by omega))) rfl ?_
  refine wl_y (y_ixa1 rfl rfl Tryz.underlying268 (by kernel_rfl) (j := o + j) (by omega) (by omega)) rfl ?_
  refine wl_y (y_load1 rfl Tryz.underlying5 rfl (B.get (v := .int .u8 (b : Int)) (by rw [Nat.zero_add, bys_get (by omega), hb]))) rfl ?_
  refine wl_y (y_conv rfl Tryz.underlying5 Tryz.underlying38 (IntWalk.u64_in _ ⟨by omega, by omega⟩)) rfl ?_
  refine wl_y (y_or rfl rfl (or8 x b hbl (by omega))) rfl ?_
  refine wl_y (y_assign rfl) rfl ?_
  refine wl_nil ?_
  refine wq_blk_norm ?_
  refine wq_then_norm (hK7 ?_)
  refine wc_region ?_
  refine wl_y (y_move rfl) rfl ?_
  refine wl_y (y_sub rfl rfl (i64_ok (by omega) (by omega))) rfl ?_
  refine wl_y (y_assign rfl) rfl ?_
  refine wl_nil ?_
  refine wq_then_norm ?_
  refine hL1 _ _ ⟨j, x * 256 + b, rfl, rfl, by omega, rfl, by rw [hst]; omega⟩ (by omega) ⟨(by first | rfl | exact congrArg some (int_val (by omega))), rfl, (by first | rfl | exact congrArg some (int_val (by omega))), (by first | rfl | exact congrArg some (int_val (by omega))), trivial⟩
 ·skip
  refine wc_exit ?_
  refine wq_then_exit ?_
  refine wq_then_exit ?_
  refine wq_blk_hit ?_
  refine wq_then_norm (hK3 ?_)
  refine wc_seq ?_; intro K8 hK8
  refine wc_region ?_
  refine wl_y (y_move rfl) rfl ?_
  refine wl_y (y_assign rfl) rfl ?_
  refine wl_nil ?_
  refine wq_then_norm (hK8 ?_)
  refine wc_ret ?_
  refine hret rfl ?_
  obtain rfl : j = 0 := by omega
  exact ⟨by rw [hx]; rfl, Ext.refl _⟩
theorem ef_word {L : List (Nat × Value)} {w : World} {ty t : TypeId} {z y : Operand} {ats : Array TypeId} {g o : Nat} {X : List UInt8} (hz : ev L z = some (.func (.func 244) #[] #[.pointer (some ⟨g, 0, none⟩)])) (hy : ev L y = some (.int .i64 (o : Int))) (B : Blk w g t (bys X)) (hX : X.length = 32) (ho : o + 8 ≤ 32) :
  Ef Tryz.prog L w (.call { callee := .value z, args := #[y], argTypes := ats }) ty fun v w' => v = .int .u64 ((Fp.word X o : Nat) : Int) ∧ Ext w w' :=
 ef_callv (us := [.pointer (some ⟨g, 0, none⟩)]) (xs := [y]) (vs := [.int .i64 (o : Int)]) hz Tryz.func244 rfl rfl (by simp [evs, hy]) (ofw_any g o t X w B hX ho) (fun _ _ h => ⟨_, h.1, rfl, h.2⟩)
theorem padded {w : World} {g : Nat} {t : TypeId} (b : List UInt8) (h : Blk w g t ((bys (zbs 32)).toList.take 0 ++ (b.take 32).map bv ++ (bys (zbs 32)).toList.drop (0 + ((b.take 32).map bv).length)).toArray) : Blk w g t (bys (Fp.pad b)) := by
 refine h.congr ?_
 unfold bys Fp.pad
 rw [List.map_append]
 congr 1
 rw [List.take_zero, List.nil_append, Nat.zero_add, List.length_map, List.toList_toArray]
 congr 1
 unfold zbs
 rw [List.map_replicate, List.drop_replicate, List.map_replicate]
theorem fof_any (A : Option Addr) (n c : Nat) (b : List UInt8) (w : World) (HA : Bs w A n b) :
  Calls Tryz.prog 203 #[.slice A n c] w fun e w' => ∃ es, e = .returned (.agg es) ∧ Fe es (Fp.ofB b) ∧ Ext w w' := by
 have hX := Fp.pad_length b
 have HT : Bs w A (min n 32) (b.take 32) := by
  have h := HA.take (k := min n 32) (by omega)
  have hn := HA.1
  rcases Nat.le_total n 32 with h1 | h1
  ·rw [Nat.min_eq_left h1, List.take_of_length_le (by omega)] at h
   rw [Nat.min_eq_left h1, List.take_of_length_le (by omega)]; exact h
  ·rw [Nat.min_eq_right h1] at h ⊢; exact h
 refine vc_enterc1 (s := 5) 30 Tryz.func203 rfl rfl rfl Tryz.underlying135 rfl (by kernel_rfl) rfl ?_
 intro Q hret
 refine wc_seq ?_; intro K1 hK1
 refine wc_region ?_
 refine wl_ef (ef_alloc (Z := fe (fun _ => 0)) (by kernel_rfl)) rfl ?_
 rintro _ w1 ⟨g1, rfl, B1, hg1, ex⟩
 have E := ex; have hl1 := B1.lt
 refine wl_nil ?_
 refine wq_then_norm (hK1 ?_)
 refine wc_seq ?_; intro K2 hK2
 refine wc_region ?_
 refine wl_ef (ef_alloc (Z := bys (zbs 32)) (by kernel_rfl)) rfl ?_
 rintro _ w2 ⟨g2, rfl, B2, hg2, ex⟩
 replace E := E.ext ex; replace B1 := B1.ext ex; have hg2' : w.heap.size ≤ g2 := by omega
 refine wl_nil ?_
 refine wq_then_norm (hK2 ?_)
 refine wc_seq ?_; intro K3 hK3
 refine wc_region ?_
 refine wl_y (y_cutarr (s := 1) rfl Tryz.underlying268 (by kernel_rfl)) rfl ?_
 refine wl_y (y_move rfl) rfl ?_
 refine wl_ef (ef_copy rfl rfl Tryz.underlying23 (by kernel_rfl) B2 (HT.wk E).2 (by rw [List.length_map, HT.1]) (by rw [List.length_map, HT.1, bys_size]; simp [zbs]; omega) (by intro u hu; exact bv_one u hu)) rfl ?_
 rintro _ w3 ⟨rfl, B3, cg⟩
 replace B3 := padded b B3; replace E := E.chg cg (Nat.le_trans (by have := hg1; omega) hg2); replace B1 := B1.chg cg (by omega)
 refine wl_nil ?_
 refine wq_then_norm (hK3 ?_)
 refine wc_seq ?_; intro K4 hK4
 refine wc_region ?_
 refine wl_y (y_func rfl) rfl ?_
 refine wl_y (y_assign rfl) rfl ?_
 refine wl_nil ?_
 refine wq_then_norm (hK4 ?_)
 refine wc_seq ?_; intro K5 hK5
 refine wc_region ?_
 refine wl_y (y_move rfl) rfl ?_
 refine wl_ef (ef_word (o := 0) rfl rfl B3 hX (by omega)) rfl ?_
 rintro _ w4 ⟨rfl, ex⟩
 replace E := E.ext ex
 replace B1 := B1.ext ex
 replace B3 := B3.ext ex
 skip
 refine wl_y (y_and rfl rfl (and51 _ (Fp.word_lt _ 0 (by omega)))) rfl ?_
 refine wl_y (y_move rfl) rfl ?_
 refine wl_ef (ef_word (o := 6) rfl rfl B3 hX (by omega)) rfl ?_
 rintro _ w5 ⟨rfl, ex⟩
 replace E := E.ext ex
 replace B1 := B1.ext ex
 replace B3 := B3.ext ex
 skip
 refine wl_y (y_shr rfl rfl (by omega) (shrc _ 3 8 rfl)) rfl ?_
 refine wl_y (y_and rfl rfl (and51 _ (by have := Fp.word_lt (Fp.pad b) 6 (by omega); omega))) rfl ?_
 refine wl_y (y_move rfl) rfl ?_
 refine wl_ef (ef_word (o := 12) rfl rfl B3 hX (by omega)) rfl ?_
 rintro _ w6 ⟨rfl, ex⟩
 replace E := E.ext ex
 replace B1 := B1.ext ex
 replace B3 := B3.ext ex
 skip
 refine wl_y (y_shr rfl rfl (by omega) (shrc _ 6 64 rfl)) rfl ?_
 refine wl_y (y_and rfl rfl (and51 _ (by have := Fp.word_lt (Fp.pad b) 12 (by omega); omega))) rfl ?_
 refine wl_y (y_move rfl) rfl ?_
 refine wl_ef (ef_word (o := 19) rfl rfl B3 hX (by omega)) rfl ?_
 rintro _ w7 ⟨rfl, ex⟩
 replace E := E.ext ex
 replace B1 := B1.ext ex
 replace B3 := B3.ext ex
 skip
 refine wl_y (y_shr rfl rfl (by omega) (shrc _ 1 2 rfl)) rfl ?_
 refine wl_y (y_and rfl rfl (and51 _ (by have := Fp.word_lt (Fp.pad b) 19 (by omega); omega))) rfl ?_
 refine wl_y (y_move rfl) rfl ?_
 refine wl_ef (ef_word (o := 24) rfl rfl B3 hX (by omega)) rfl ?_
 rintro _ w8 ⟨rfl, ex⟩
 replace E := E.ext ex
 replace B1 := B1.ext ex
 replace B3 := B3.ext ex
 skip
 refine wl_y (y_shr rfl rfl (by omega) (shrc _ 12 4096 rfl)) rfl ?_
 refine wl_y (y_and rfl rfl (and51 _ (by have := Fp.word_lt (Fp.pad b) 24 (by omega); omega))) rfl ?_
 refine wl_y (y_build rfl (cells := fe (Fp.ofL (Fp.pad b))) (by kernel_rfl)) rfl ?_
 refine wl_y (y_build rfl (cells := fe (Fp.ofL (Fp.pad b))) (by kernel_rfl)) rfl ?_
 refine wl_ef (ef_storeW rfl rfl (by rw [fe_size]; kernel_rfl) B1 (by rw [fe_size, fe_size]) (fe_one _)) rfl ?_
 rintro _ w9 ⟨rfl, B9, cg⟩
 have E9 := E.chg cg hg1
 refine wl_nil ?_
 refine wq_then_norm (hK5 ?_)
 refine wc_ret ?_
 refine hret rfl B9 (fe_size _) ?_
 exact ⟨_, rfl, ⟨_, rfl, fun j _ => by have := Fp.ofL_lt (Fp.pad b) j; omega, by rw [Fp.ofL_val _ hX, Fp.num_pad]; rfl⟩, E9⟩
end Go.Proofs.YtjllhimhiekchaaGreat

namespace Go.Proofs.YtjllhimhiekchaaGreat
section
open Go.RowKit
attribute [local irreducible] Y Ef WL WC WK WQ WM OpM
theorem makeNoZero_run (k : Nat) (hk : k ≤ 1000000) (w : World) :
  ∃ v w', (callFunc 265 #[.int .i64 (k : Int)]).run Tryz.prog w = .ok (.value v) w' ∧ NewRaw w 5 k v w' := by
 obtain ⟨cs, hrun, hle, _⟩ := Lib.run_makeNoZero (P := Tryz.prog) w #[3] 23 5 Tryz.underlying23 k (by omega)
 refine ⟨_, _, ?_, w.heap.size, cs, rfl, Blk.new w.drew.drew 5 cs, hle, Nat.le_refl _, ?_⟩
 ·rw [run_callFunc_extern Tryz.func265 (by kernel_rfl) (by kernel_rfl) (by kernel_rfl) (e := Extern.BytealgMakeNoZero.makeNoZero #[3] #[23]) (by kernel_rfl), hrun]
  rfl
 ·exact (((Ext.drew w).tr (Ext.drew w.drew))).tr (Ext.alloc _ _)
theorem bmul_any (x y : Nat) (w : World) (hx : x < 18446744073709551616) (hy : y < 18446744073709551616) :
  Calls Tryz.prog 264 #[.int .u64 (x : Int), .int .u64 (y : Int)] w fun e w' => e = .returned (.tuple #[.int .u64 ((x * y / 18446744073709551616 : Nat) : Int), .int .u64 ((x * y % 18446744073709551616 : Nat) : Int)]) ∧ Ext w w' := by
 refine vc_enter2 30 Tryz.func264 rfl rfl rfl rfl ?_
 intro Q hret
 refine wc_seq ?_; intro K1 hK1
 refine wc_region ?_
 refine wl_y (y_assign rfl) rfl ?_
 refine wl_y (y_assign rfl) rfl ?_
 refine wl_nil ?_
 refine wq_then_norm (hK1 ?_)
 refine wc_seq ?_; intro K2 hK2
 refine wc_false rfl rfl ?_
 refine wc_skip ?_
 refine wq_then_norm (hK2 ?_)
 refine wc_seq ?_; intro K3 hK3
 refine wc_region ?_
 refine wl_y (y_move rfl) rfl ?_
 refine wl_y (y_move rfl) rfl ?_
 refine wl_call Tryz.func216 rfl rfl rfl (mul64_any x y _ hx hy) rfl ?_
 rintro e w1 ⟨rfl, ex⟩
 refine ⟨_, rfl, ?_⟩
 skip
 refine wl_y (y_move rfl) rfl ?_
 refine wl_y (y_extract rfl rfl) rfl ?_
 refine wl_y (y_extract rfl rfl) rfl ?_
 refine wl_y (y_assign rfl) rfl ?_
 refine wl_y (y_assign rfl) rfl ?_
 refine wl_nil ?_
 refine wq_then_norm (hK3 ?_)
 refine wc_seq ?_; intro K4 hK4
 refine wc_region ?_
 refine wl_y (y_move rfl) rfl ?_
 refine wl_y (y_move rfl) rfl ?_
 refine wl_y (y_assign rfl) rfl ?_
 refine wl_y (y_assign rfl) rfl ?_
 refine wl_nil ?_
 refine wq_then_norm (hK4 ?_)
 refine wc_ret ?_
 refine hret rfl rfl ?_
 exact ⟨rfl, ex⟩
def Rep (w : World) (g n c : Nat) (b : UInt8) : Prop := ∃ tl : List Value, Blk w g 5 ((List.replicate n b).map bv ++ tl).toArray ∧ n + tl.length = c
theorem Rep.ext {w w' : World} {g n c : Nat} {b : UInt8} (h : Rep w g n c b) (k : Ext w w') : Rep w' g n c b := by
 obtain ⟨tl, h1, h2⟩ := h; exact ⟨tl, h1.ext k, h2⟩
theorem Rep.at {w : World} {g n c m : Nat} {b : UInt8} (h : Rep w g n c b) (hm : m ≤ n) : At w (some ⟨g, 0, none⟩) ((List.replicate m b).map bv) := by
 obtain ⟨tl, h1, h2⟩ := h
 refine h1.at 0 _ fun j u hu => ?_
 have hj : j < m := by have := (List.getElem?_eq_some_iff.1 hu).1; simpa using this
 rw [Nat.zero_add]
 rw [List.map_replicate, List.getElem?_replicate_of_lt hj] at hu
 simp only [List.map_replicate, List.getElem?_toArray]
 rw [List.getElem?_append_left (by simp; omega), List.getElem?_replicate_of_lt (by omega)]
 exact hu
theorem rep_next {n m : Nat} {b : UInt8} {tl : List Value} (hm : m ≤ tl.length) :
  ((List.replicate n b).map bv ++ tl).take n ++ (List.replicate m b).map bv ++ ((List.replicate n b).map bv ++ tl).drop (n + ((List.replicate m b).map bv).length) = (List.replicate (n + m) b).map bv ++ tl.drop m := by
 simp only [List.map_replicate, List.length_replicate]
 rw [List.take_append_of_le_length (by simp), List.take_of_length_le (by simp), List.drop_append, List.drop_of_length_le (by simp), List.nil_append, List.length_replicate, show n + m - n = m by omega, List.replicate_append_replicate]
theorem repeat_any (A : Option Addr) (c k : Nat) (b : UInt8) (w : World) (HA : Bs w A 1 [b]) (hk0 : 0 < k) (hk : k ≤ 4000) :
  Calls Tryz.prog 251 #[.slice A 1 c, .int .i64 (k : Int)] w fun e w' => ∃ g C, e = .returned (.slice (some ⟨g, 0, none⟩) k k) ∧ Rep w' g k C b ∧ w.heap.size ≤ g ∧ Ext w w' := by
 refine vc_enter1 77 Tryz.func251 rfl rfl rfl rfl ?_
 intro Q hret
 refine wc_seq ?_; intro K1 hK1
 refine wc_region ?_
 refine wl_y (y_assign rfl) rfl ?_
 refine wl_nil ?_
 refine wq_then_norm (hK1 ?_)
 refine wc_seq ?_; intro K2 hK2
 refine wc_seq ?_; intro K3 hK3
 refine wc_region ?_
 refine wl_y (y_move rfl) rfl ?_
 refine wl_y (y_eql rfl rfl) rfl ?_
 refine wl_nil ?_
 refine wq_then_norm (hK3 ?_)
 refine wc_no rfl (by omega) ?_
 refine wc_skip ?_
 refine wq_then_norm (hK2 ?_)
 refine wc_seq ?_; intro K4 hK4
 refine wc_seq ?_; intro K5 hK5
 refine wc_region ?_
 refine wl_y (y_move rfl) rfl ?_
 refine wl_y (y_lss rfl rfl) rfl ?_
 refine wl_nil ?_
 refine wq_then_norm (hK5 ?_)
 refine wc_no rfl (by omega) ?_
 refine wc_skip ?_
 refine wq_then_norm (hK4 ?_)
 refine wc_seq ?_; intro K6 hK6
 refine wc_region ?_
 refine wl_y (y_move rfl) rfl ?_
 refine wl_y (y_len_slice rfl Tryz.underlying23) rfl ?_
 refine wl_y (y_conv rfl Tryz.underlying3 Tryz.underlying246 (IntWalk.u64_in _ ⟨by omega, by omega⟩)) rfl ?_
 refine wl_y (y_move rfl) rfl ?_
 refine wl_y (y_conv rfl Tryz.underlying3 Tryz.underlying246 (IntWalk.u64_in _ ⟨by omega, by omega⟩)) rfl ?_
 refine wl_call Tryz.func264 rfl rfl rfl (bmul_any 1 k _ (by omega) (by omega)) rfl ?_
 rintro e w1 ⟨rfl, ex⟩
 refine ⟨_, rfl, ?_⟩
 replace HA := HA.ext ex
 rw [show 1 * k / 18446744073709551616 = 0 by omega, show 1 * k % 18446744073709551616 = k by omega]; have E1 := ex
 refine wl_y (y_move rfl) rfl ?_
 refine wl_y (y_extract rfl rfl) rfl ?_
 refine wl_y (y_extract rfl rfl) rfl ?_
 refine wl_y (y_assign rfl) rfl ?_
 refine wl_y (y_assign rfl) rfl ?_
 refine wl_nil ?_
 refine wq_then_norm (hK6 ?_)
 refine wc_seq ?_; intro K7 hK7
 refine wc_seq ?_; intro K8 hK8
 refine wc_region ?_
 refine wl_y (y_move rfl) rfl ?_
 refine wl_y (Y.as (y_gtr rfl rfl) (congrArg Value.bool (decide_eq_false (by omega)))) rfl ?_
 refine wl_y (y_move rfl) rfl ?_
 refine wl_gy 29 rfl rfl (y_move rfl) rfl ?_
 refine wl_gy 29 rfl rfl (Y.as (y_gtr rfl rfl) (congrArg Value.bool (decide_eq_false (by omega)))) rfl ?_
 refine wl_y (y_pickf rfl rfl) rfl ?_
 refine wl_nil ?_
 refine wq_then_norm (hK8 ?_)
 refine wc_false rfl rfl ?_
 refine wc_skip ?_
 refine wq_then_norm (hK7 ?_)
 refine wc_seq ?_; intro K9 hK9
 refine wc_region ?_
 refine wl_y (y_move rfl) rfl ?_
 refine wl_y (y_conv rfl Tryz.underlying246 Tryz.underlying3 (i64_ok (by omega) (by omega))) rfl ?_
 refine wl_y (y_assign rfl) rfl ?_
 refine wl_nil ?_
 refine wq_then_norm (hK9 ?_)
 refine wc_seq ?_; intro K10 hK10
 refine wc_seq ?_; intro K11 hK11
 refine wc_region ?_
 refine wl_y (y_move rfl) rfl ?_
 refine wl_y (y_len_slice rfl Tryz.underlying23) rfl ?_
 refine wl_y (y_eql rfl rfl) rfl ?_
 refine wl_nil ?_
 refine wq_then_norm (hK11 ?_)
 refine wc_no rfl (by omega) ?_
 refine wc_skip ?_
 refine wq_then_norm (hK10 ?_)
 refine wc_seq ?_; intro K12 hK12
 refine wc_region ?_
 refine wl_y (y_move rfl) rfl ?_
 refine wl_y (y_assign rfl) rfl ?_
 refine wl_nil ?_
 refine wq_then_norm (hK12 ?_)
 refine wc_seq ?_; intro K13 hK13
 refine wc_seq ?_; intro K14 hK14
 refine wc_region ?_
 refine wl_y (y_move rfl) rfl ?_
 refine wl_y (y_gtr rfl rfl) rfl ?_
 refine wl_nil ?_
 refine wq_then_norm (hK14 ?_)
 refine wc_no rfl (by omega) ?_
 refine wc_skip ?_
 refine wq_then_norm (hK13 ?_)
 refine wc_seq ?_; intro K15 hK15
 refine wc_region ?_
 refine wl_y (y_move rfl) rfl ?_
 refine wl_ef (ef_extM rfl (makeNoZero_run k (by omega) _)) rfl ?_
 rintro _ w2 ⟨g, cs, rfl, B2, hcs, hg, ex⟩
 replace HA := HA.ext ex
 have E2 := E1.ext ex
 refine wl_y (y_move rfl) rfl ?_
 refine wl_y (y_move rfl) rfl ?_
 refine wl_y (y_cuthm (s := 1) (h := k) (m := k) rfl rfl rfl Tryz.underlying23 (by kernel_rfl) rfl rfl (by omega) hcs) rfl ?_
 refine wl_y (y_assign rfl) rfl ?_
 refine wl_nil ?_
 refine wq_then_norm (hK15 ?_)
 refine wc_seq ?_; intro K16 hK16
 refine wc_region ?_
 refine wl_y (y_move rfl) rfl ?_
 refine wl_y (y_move rfl) rfl ?_
 refine wl_ef (ef_copy (cs := [b].map bv) rfl rfl Tryz.underlying23 (by kernel_rfl) B2 HA.2 (by show 1 = min 1 k; omega) (by show 0 + 1 ≤ cs.size; omega) (by intro u hu; exact bv_one u hu)) rfl ?_
 rintro _ w3 ⟨rfl, B3, cg⟩
 have hg0 : w.heap.size ≤ g := Nat.le_trans E1.size hg; have E3 := E2.chg cg hg0; have R3 : Rep w3 g 1 cs.size b := ⟨cs.toList.drop 1, B3.congr (by simp), by simp; omega⟩
 refine wl_y (y_assign rfl) rfl ?_
 refine wl_nil ?_
 refine wq_then_norm (hK16 ?_)
 refine wc_seq ?_; intro K17 hK17
 refine wc_block ?_
 refine wc_loop (fun n' L wr => ∃ i : Nat, L = [(7, .int .i64 (k : Int)), (8, .int .i64 (k : Int)), (9, .slice (some ⟨g, 0, none⟩) k k), (10, .int .i64 (i : Int))] ∧ n' = k - i ∧ (1 ≤ i ∧ i ≤ k ∧ Ext w wr ∧ Rep wr g i cs.size b)) _ _ ⟨1, rfl, rfl, by omega, by omega, E3, R3⟩ ⟨(by first | rfl | exact congrArg some (int_val (by omega))), (by first | rfl | exact congrArg some (int_val (by omega))), rfl, (by first | rfl | exact congrArg some (int_val (by omega))), trivial⟩ ?_
 rintro KL1 n' L wr ⟨i, rfl, rfl, h1, hi, F, R⟩ hL1
 refine wc_seq ?_; intro K18 hK18
 refine wc_seq ?_; intro K19 hK19
 refine wc_region ?_
 refine wl_y (y_move rfl) rfl ?_
 refine wl_y (y_move rfl) rfl ?_
 refine wl_y (y_lss rfl rfl) rfl ?_
 refine wl_nil ?_
 refine wq_then_norm (hK19 ?_)
 refine wc_dec rfl (fun hc7 => ?_) (fun hc7 => ?_)
 ·skip
  refine wc_skip ?_
  refine wq_then_norm (hK18 ?_)
  refine wc_block ?_
  refine wc_seq ?_; intro K20 hK20
  refine wc_region ?_
  refine wl_y (y_move rfl) rfl ?_
  refine wl_y (y_move rfl) rfl ?_
  refine wl_y (y_min rfl rfl) rfl ?_
  rw [show (if (k : Int) < (i : Int) then (k : Int) else (i : Int)) = (i : Int) by rw [if_neg (by omega)]]
  refine wl_y (y_assign rfl) rfl ?_
  refine wl_nil ?_
  refine wq_then_norm (hK20 ?_)
  refine wc_draw (by kernel_rfl) 10 rfl ?_; intro wd20 ex hd20
  replace F := F.ext ex; replace R := R.ext ex
  refine wm_z 0 rfl (by kernel_rfl) (fun _ => y_move rfl) rfl ?_
  refine wm_z 1 rfl (by kernel_rfl) (fun _ => y_move rfl) rfl ?_
  refine wm_z 2 rfl (by kernel_rfl) (fun _ => y_move rfl) rfl ?_
  refine wm_z 3 rfl (by kernel_rfl) (fun _ => y_cutl (s := 1) rfl rfl Tryz.underlying23 (by kernel_rfl) rfl (by omega)) rfl ?_
  rw [show cutA (some ⟨g, 0, none⟩) k i 1 = some (⟨g, i, none⟩ : Addr) by unfold cutA; rw [if_neg (by omega), Nat.mul_one]; show some ((⟨g, 0, none⟩ : Addr).add i) = _; rw [add_lit, Nat.zero_add]]
  refine wm_z 4 rfl (by kernel_rfl) (fun _ => y_move rfl) rfl ?_
  refine wm_z 5 rfl (by kernel_rfl) (fun _ => y_move rfl) rfl ?_
  refine wm_z 6 rfl (by kernel_rfl) (fun _ => y_cuth (s := 1) rfl rfl Tryz.underlying23 (by kernel_rfl) rfl (by omega)) rfl ?_
  obtain ⟨tl, BR, hl⟩ := R
  have R : Rep wd20 g i cs.size b := ⟨tl, BR, hl⟩
  refine wm_one 7 (by kernel_rfl) ?_; refine om_ef rfl (ef_copy (cs := (List.replicate (min i (k - i)) b).map bv) rfl rfl Tryz.underlying23 (by kernel_rfl) BR (R.at (by omega)) (by simp) (by simp; omega) (by intro u hu; exact bv_one u hu)) rfl ?_
  rintro _ w5 ⟨rfl, B5, cg⟩
  refine ⟨.inl rfl, ?_⟩
  rw [rep_next (by omega)] at B5; have F5 := F.chg cg hg0
  refine wm_y 8 rfl (by kernel_rfl) (y_add rfl rfl (i64_nat (n := i + min i (k - i)) (by simp) (by omega))) rfl ?_
  refine wm_y 9 rfl (by kernel_rfl) (y_assign rfl) rfl ?_
  refine wm_done (by kernel_rfl) ?_
  refine wq_nop ?_
  refine wq_blk_norm ?_
  refine wq_then_norm ?_
  refine hL1 _ _ ⟨i + min i (k - i), rfl, rfl, by omega, by omega, F5, ⟨_, B5, by simp; omega⟩⟩ (by omega) ⟨(by first | rfl | exact congrArg some (int_val (by omega))), (by first | rfl | exact congrArg some (int_val (by omega))), rfl, (by first | rfl | exact congrArg some (int_val (by omega))), trivial⟩
 ·skip
  refine wc_exit ?_
  refine wq_then_exit ?_
  refine wq_then_exit ?_
  refine wq_blk_hit ?_
  refine wq_then_norm (hK17 ?_)
  refine wc_seq ?_; intro K21 hK21
  refine wc_region ?_
  refine wl_y (y_move rfl) rfl ?_
  refine wl_y (y_assign rfl) rfl ?_
  refine wl_nil ?_
  refine wq_then_norm (hK21 ?_)
  refine wc_ret ?_
  refine hret rfl ?_
  obtain rfl : i = k := by omega
  exact ⟨g, cs.size, rfl, R, hg0, F⟩
end
section
open Go.RowKit
attribute [local irreducible] Y Ef WL WC WK WQ WM OpM
def pwr (a b : UInt8) : List UInt8 := a :: (List.replicate 30 255 ++ [b])
theorem power_any (a b : UInt8) (w : World) :
  Calls Tryz.prog 221 #[.int .u8 (a.toNat : Int), .int .u8 (b.toNat : Int)] w fun e w' => ∃ g, e = .returned (.slice (some ⟨g, 0, none⟩) 32 32) ∧ Bs w' (some ⟨g, 0, none⟩) 32 (pwr a b) ∧ Ext w w' := by
 refine vc_enter1 15 Tryz.func221 rfl rfl rfl rfl ?_
 intro Q hret
 refine wc_seq ?_; intro K1 hK1
 refine wc_region ?_
 refine wl_y (y_assign rfl) rfl ?_
 refine wl_nil ?_
 refine wq_then_norm (hK1 ?_)
 refine wc_seq ?_; intro K2 hK2
 refine wc_region ?_
 refine wl_ef (ef_lit (z := .int .u8 0) Tryz.underlying23 (by kernel_rfl) rfl rfl rfl rfl rfl) rfl ?_
 rintro _ w1 ⟨g1, rfl, B1, hg1, ex⟩
 have E1 := ex; have H1 : Bs w1 (some ⟨g1, 0, none⟩) 1 [255] := bs_blk' (xs := [255]) B1 rfl
 refine wl_call Tryz.func251 rfl rfl rfl (repeat_any _ 1 32 255 _ H1 (by omega) (by omega)) rfl ?_
 rintro e w2 ⟨g, C, rfl, ⟨tl, B2, hC⟩, hg, ex⟩
 refine ⟨_, rfl, ?_⟩
 have E2 := E1.ext ex; have hg' : w.heap.size ≤ g := Nat.le_trans E1.size hg
 refine wl_y (y_assign rfl) rfl ?_
 refine wl_nil ?_
 refine wq_then_norm (hK2 ?_)
 refine wc_seq ?_; intro K3 hK3
 refine wc_region ?_
 refine wl_y (y_move rfl) rfl ?_
 refine wl_y (y_move rfl) rfl ?_
 refine wl_y (y_move rfl) rfl ?_
 refine wl_y (y_move rfl) rfl ?_
 refine wl_y (y_ixs1 rfl rfl Tryz.underlying23 (by kernel_rfl) (j := 0) rfl (by omega)) rfl ?_
 refine wl_ef (ef_storeB rfl rfl rfl (by kernel_rfl) B2 (by simp)) rfl ?_
 rintro _ w3 ⟨rfl, B3, cg⟩
 have E3 := E2.chg cg hg'
 refine wl_y (y_ixs1 rfl rfl Tryz.underlying23 (by kernel_rfl) (j := 31) rfl (by omega)) rfl ?_
 refine wl_ef (ef_storeB rfl rfl rfl (by kernel_rfl) B3 (by simp)) rfl ?_
 rintro _ w4 ⟨rfl, B4, cg⟩
 have E4 := E3.chg cg hg'
 refine wl_nil ?_
 refine wq_then_norm (hK3 ?_)
 refine wc_seq ?_; intro K4 hK4
 refine wc_region ?_
 refine wl_y (y_move rfl) rfl ?_
 refine wl_y (y_assign rfl) rfl ?_
 refine wl_nil ?_
 refine wq_then_norm (hK4 ?_)
 refine wc_ret ?_
 refine hret rfl ?_
 refine ⟨g, rfl, ⟨rfl, B4.at 0 _ fun j u hu => ?_⟩, E4⟩
 have hj : j < 32 := (List.getElem?_eq_some_iff.1 hu).1
 rw [← hu]
 simp only [Nat.zero_add, List.map_replicate, List.setIfInBounds_toArray, List.getElem?_toArray]
 rw [show (List.replicate 32 (bv 255) ++ tl).set 0 (.int .u8 (a.toNat : Int)) = bv a :: (List.replicate 31 (bv 255) ++ tl) from rfl]
 rw [show (bv a :: (List.replicate 31 (bv 255) ++ tl)).set 31 (.int .u8 (b.toNat : Int)) = (bv a :: (List.replicate 30 (bv 255) ++ [bv b])) ++ tl from rfl]
 rw [List.getElem?_append_left (by simpa using hj)]
 rfl
def FE (cs : Array Value) (a : Fp.F) : Prop := Fe cs a.val
theorem FE.of {cs : Array Value} {x : Nat} (h : Fe cs x) : FE cs (Fp.of x) := by
 unfold FE; rw [Fp.val_of, Nat.mod_eq_of_lt h.lt]; exact h
theorem FE.congr {cs : Array Value} {a b : Fp.F} (h : FE cs a) (e : a = b) : FE cs b := e ▸ h
theorem FE.size {cs : Array Value} {a : Fp.F} (h : FE cs a) : cs.size = 5 := Fe.size h
theorem FE.one {cs : Array Value} {a : Fp.F} (h : FE cs a) : cs.all (·.oneCell') = true := Fe.one h
theorem FE.zero : FE (fe (fun _ => 0)) 0 := Fe.zero
section
variable {cs ds : Array Value} {a b : Fp.F}
theorem Fmul_any (ha : FE cs a) (hb : FE ds b) (w : World) : Calls Tryz.prog 152 #[.agg cs, .agg ds] w fun e w' => ∃ es, e = .returned (.agg es) ∧ FE es (a * b) ∧ Ext w w' :=
 (fmul_any ha hb w).mono fun _ _ ⟨es, h1, h2, h3⟩ => ⟨es, h1, by unfold FE; rw [Fp.val_mul]; exact h2, h3⟩
theorem Fadd_any (ha : FE cs a) (hb : FE ds b) (w : World) : Calls Tryz.prog 159 #[.agg cs, .agg ds] w fun e w' => ∃ es, e = .returned (.agg es) ∧ FE es (a + b) ∧ Ext w w' :=
 (fadd_any ha hb w).mono fun _ _ ⟨es, h1, h2, h3⟩ => ⟨es, h1, by unfold FE; rw [Fp.val_add]; exact h2, h3⟩
theorem Fsub_any (ha : FE cs a) (hb : FE ds b) (w : World) : Calls Tryz.prog 223 #[.agg cs, .agg ds] w fun e w' => ∃ es, e = .returned (.agg es) ∧ FE es (a - b) ∧ Ext w w' :=
 (fsub_any ha hb w).mono fun _ _ ⟨es, h1, h2, h3⟩ => ⟨es, h1, by unfold FE; rw [Fp.val_sub]; exact h2, h3⟩
theorem Fneg_any (ha : FE cs a) (w : World) : Calls Tryz.prog 205 #[.agg cs] w fun e w' => ∃ es, e = .returned (.agg es) ∧ FE es (-a) ∧ Ext w w' :=
 (fneg_any ha w).mono fun _ _ ⟨es, h1, h2, h3⟩ => ⟨es, h1, by unfold FE; rw [Fp.val_neg]; exact h2, h3⟩
theorem Fsquare_any (ha : FE cs a) (w : World) : Calls Tryz.prog 222 #[.agg cs] w fun e w' => ∃ es, e = .returned (.agg es) ∧ FE es (a * a) ∧ Ext w w' :=
 (fsquare_any ha w).mono fun _ _ ⟨es, h1, h2, h3⟩ => ⟨es, h1, by unfold FE; rw [Fp.val_mul]; exact h2, h3⟩
theorem Fnum_any (n : Nat) (w : World) (hn : n < 18446744073709551616) : Calls Tryz.prog 151 #[.int .u64 (n : Int)] w fun e w' => ∃ es, e = .returned (.agg es) ∧ FE es (Fp.of n) ∧ Ext w w' :=
 (fnum_any n w hn).mono fun _ _ ⟨es, h1, h2, h3⟩ => ⟨es, h1, FE.of h2, h3⟩
theorem Fsame_any (ha : FE cs a) (hb : FE ds b) (w : World) : Calls Tryz.prog 211 #[.agg cs, .agg ds] w fun e w' => e = .returned (.bool (decide (a = b))) ∧ Ext w w' :=
 (fsame_any ha hb w).mono fun _ _ ⟨h1, h2⟩ => ⟨h1.trans (ret_bool Fp.val_inj), h2⟩
theorem Fzero_any (ha : FE cs a) (w : World) : Calls Tryz.prog 204 #[.agg cs] w fun e w' => e = .returned (.bool (decide (a = 0))) ∧ Ext w w' :=
 (fzero_any ha w).mono fun _ _ ⟨h1, h2⟩ => ⟨h1.trans (ret_bool Fp.val_eq_zero), h2⟩
theorem Fodd_any (ha : FE cs a) (w : World) : Calls Tryz.prog 163 #[.agg cs] w fun e w' => e = .returned (.bool (decide (a.val % 2 = 1))) ∧ Ext w w' := fodd_any ha w
end
theorem pow_bits (a : Fp.F) (N j : Nat) : Fp.pow a (N / 2 ^ j) = if N / 2 ^ j % 2 = 1 then Fp.pow a (N / 2 ^ (j + 1)) * Fp.pow a (N / 2 ^ (j + 1)) * a else Fp.pow a (N / 2 ^ (j + 1)) * Fp.pow a (N / 2 ^ (j + 1)) := by
 have e : N / 2 ^ (j + 1) = N / 2 ^ j / 2 := by rw [Nat.pow_succ, Nat.div_div_eq_div_mul]
 rw [e, ← Fp.pow_double]
 split
 ·rw [← Fp.pow_succ]; congr 1; omega
 ·congr 1; omega
theorem num_bit (es : List UInt8) (j : Nat) (hj : j / 8 < es.length) : (es.getD (j / 8) 0).toNat / 2 ^ (j % 8) % 2 = Fp.num es / 2 ^ j % 2 := by
 have h1 := Fp.num_drop es (j / 8) (by omega)
 have h2 : es.drop (j / 8) = es[j / 8] :: es.drop (j / 8 + 1) := List.drop_eq_getElem_cons hj
 rw [h2, Fp.num] at h1
 rw [Fp.pow_split j, Nat.mul_comm, ← Nat.div_div_eq_div_mul, ← h1, List.getD_eq_getElem?_getD, List.getElem?_eq_getElem hj]
 show (es[j / 8]).toNat / _ % 2 = _
 generalize (es[j / 8]).toNat = x
 generalize Fp.num (es.drop (j / 8 + 1)) = y
 have hlt : j % 8 < 8 := Nat.mod_lt _ (by omega)
 generalize j % 8 = m at hlt
 have : m = 0 ∨ m = 1 ∨ m = 2 ∨ m = 3 ∨ m = 4 ∨ m = 5 ∨ m = 6 ∨ m = 7 := by omega
 rcases this with rfl | rfl | rfl | rfl | rfl | rfl | rfl | rfl <;> simp only [Nat.reducePow] <;> omega
theorem shr_u8 (x m : Nat) (hm : m < 8) : (x : Int) / 2 ^ (min ((m : Int)).toNat IntKind.u8.bits) = ((x / 2 ^ m : Nat) : Int) := by
 have e : min ((m : Int)).toNat IntKind.u8.bits = m := by show min m 8 = m; omega
 rw [e, Int.natCast_ediv, Int.natCast_pow]; rfl
theorem and1b (x : Nat) (hx : x < 256) : bits .and .u8 (x : Int) 1 = ((x % 2 : Nat) : Int) := by
 have h := (bits_u8 (p := x) (q := 1) hx (by omega)).1
 rw [show ((1 : Int)) = ((1 : Nat) : Int) from rfl, h, Nat.and_one_is_mod]
theorem Fpow_any {cs : Array Value} {a : Fp.F} (ha : FE cs a) (A : Option Addr) (n c : Nat) (es : List UInt8) (w : World) (HA : Bs w A n es) (hn : n ≤ 1000) :
  Calls Tryz.prog 220 #[.agg cs, .slice A n c] w fun e w' => ∃ ds, e = .returned (.agg ds) ∧ FE ds (Fp.pow a (Fp.num es)) ∧ Ext w w' := by
 have hle := HA.1
 have HA0 := HA
 refine vc_enterc1 (s := 5) 31 Tryz.func220 rfl rfl rfl Tryz.underlying135 rfl (by kernel_rfl) rfl ?_
 intro Q hret
 refine wc_seq ?_; intro K1 hK1
 refine wc_region ?_
 refine wl_ef (ef_box (cs := cs) rfl rfl) rfl ?_
 rintro _ w1 ⟨g1, rfl, B1, hg1, ex⟩
 have E1 := ex; have hl1 := B1.lt
 refine wl_ef (ef_alloc (Z := fe (fun _ => 0)) (by kernel_rfl)) rfl ?_
 rintro _ w2 ⟨g2, rfl, B2, hg2, ex⟩
 have E2 := E1.ext ex; replace B1 := B1.ext ex; have hg2' : w.heap.size ≤ g2 := Nat.le_trans E1.size hg2; have hl2 := B2.lt
 refine wl_nil ?_
 refine wq_then_norm (hK1 ?_)
 refine wc_scope2 0 (fun n' L wr => ∃ (b g4 : Nat) (ds : Array Value), L = [(1, .slice A n c), (2, .pointer (some ⟨g1, 0, none⟩)), (4, .pointer (some ⟨g2, 0, none⟩)), (5, .pointer (some ⟨g4, 0, none⟩)), (6, .int .i64 (b : Int))] ∧ n' = 1 + b ∧ (b ≤ 8 * n ∧ w.heap.size ≤ g4 ∧ g1 < g2 ∧ g2 < g4 ∧ Ext w wr ∧ Blk wr g1 135 cs ∧ Blk wr g2 135 (fe (fun _ => 0)) ∧ Blk wr g4 135 ds ∧ FE ds (Fp.pow a (Fp.num es / 2 ^ b)))) rfl ?_ ?_
 ·rintro G n' L wr ⟨b, g4, ds, rfl, rfl, hb, hg4', h12, h24, F, C1, C2, C4, D⟩ hG0
  refine wc_seq ?_; intro K2 hK2
  refine wc_region ?_
  refine wl_y (y_move rfl) rfl ?_
  refine wl_y (y_sub rfl rfl (i64_ok (by omega) (by omega))) rfl ?_
  refine wl_y (y_assign rfl) rfl ?_
  refine wl_nil ?_
  refine wq_then_norm (hK2 ?_)
  refine wc_seq ?_; intro K3 hK3
  refine wc_seq ?_; intro K4 hK4
  refine wc_region ?_
  refine wl_y (y_move rfl) rfl ?_
  refine wl_y (y_geq rfl rfl) rfl ?_
  refine wl_nil ?_
  refine wq_then_norm (hK4 ?_)
  refine wc_dec rfl (fun hc1 => ?_) (fun hc1 => ?_)
  ·skip
   obtain ⟨j, rfl⟩ : ∃ i, b = i + 1 := ⟨b - 1, by omega⟩
   rw [show (((j + 1 : Nat) : Int) - 1) = (j : Int) by omega]
   have hj8 : j / 8 < n := by omega
   have hpb := pow_bits a (Fp.num es) j
   have hnb := num_bit es j (by omega)
   obtain ⟨b1, off1, x, rfl, hx, hcx0⟩ := HA0.byte (k := j / 8) hj8
   have hcx := (F.cell (cell_lt hcx0)).trans hcx0
   have hxl := x.toNat_lt
   rw [← hx.out] at hnb
   have hxd : x.toNat / 2 ^ (j % 8) < 256 := Nat.lt_of_le_of_lt (Nat.div_le_self _ _) (by omega)
   refine wc_seq ?_; intro K5 hK5
   refine wc_region ?_
   refine wl_y ((y_loadw rfl Tryz.underlying135 rfl (by rw [D.size]; kernel_rfl) C4)) rfl ?_
   refine wl_call Tryz.func222 rfl rfl rfl (Fsquare_any D _) rfl ?_
   rintro e w6 ⟨d6, rfl, D6, ex⟩
   refine ⟨_, rfl, ?_⟩
   have F6 := F.ext ex; replace C1 := C1.ext ex; replace C2 := C2.ext ex; replace C4 := C4.ext ex
   refine wl_ef (ef_storeW rfl rfl (by rw [D6.size]; kernel_rfl) C4 (by rw [D.size, D6.size]) D6.one) rfl ?_
   rintro _ w7 ⟨rfl, B7, cg⟩
   replace F := F6.chg cg hg4'; replace C1 := C1.chg cg (by omega); replace C2 := C2.chg cg (by omega); replace C4 := B7; have hcx := (F.cell (cell_lt hcx0)).trans hcx0
   refine wl_nil ?_
   refine wq_then_norm (hK5 ?_)
   refine wc_seq ?_; intro K6 hK6
   refine wc_seq ?_; intro K7 hK7
   refine wc_region ?_
   refine wl_y (y_move rfl) rfl ?_
   refine wl_y (y_move rfl) rfl ?_
   refine wl_y (y_quo rfl rfl (by omega) (show IntKind.i64.wrap ((j : Int).tdiv 8) = ((j / 8 : Nat) : Int) from i64_nat rfl (by omega))) rfl ?_
   refine wl_y (y_ixs1 rfl rfl Tryz.underlying23 (by kernel_rfl) (j := j / 8) rfl hj8) rfl ?_
   refine wl_y (y_load1 rfl Tryz.underlying5 rfl hcx) rfl ?_
   refine wl_y (y_move rfl) rfl ?_
   refine wl_y (y_rem rfl rfl (by omega) (show ((j : Int).tmod 8) = ((j % 8 : Nat) : Int) from rfl)) rfl ?_
   refine wl_y (y_shr rfl rfl (by omega) (shr_u8 _ _ (by omega))) rfl ?_
   refine wl_y (y_and rfl rfl (and1b _ hxd)) rfl ?_
   refine wl_y (y_eql rfl rfl) rfl ?_
   refine wl_nil ?_
   refine wq_then_norm (hK7 ?_)
   refine wc_dec rfl (fun hc2 => ?_) (fun hc2 => ?_)
   ·skip
    refine wc_region ?_
    refine wl_y ((y_loadw rfl Tryz.underlying135 rfl (by rw [D6.size]; kernel_rfl) C4)) rfl ?_
    refine wl_y ((y_loadw rfl Tryz.underlying135 rfl (by rw [ha.size]; kernel_rfl) C1)) rfl ?_
    refine wl_call Tryz.func152 rfl rfl rfl (Fmul_any D6 ha _) rfl ?_
    rintro e w8 ⟨d8, rfl, D8, ex⟩
    refine ⟨_, rfl, ?_⟩
    have F8 := F.ext ex; replace C1 := C1.ext ex; replace C2 := C2.ext ex; replace C4 := C4.ext ex
    refine wl_ef (ef_storeW rfl rfl (by rw [D8.size]; kernel_rfl) C4 (by rw [D6.size, D8.size]) D8.one) rfl ?_
    rintro _ w9 ⟨rfl, B9, cg⟩
    replace F := F8.chg cg hg4'; replace C1 := C1.chg cg (by omega); replace C2 := C2.chg cg (by omega); replace C4 := B9
    refine wl_nil ?_
    refine wq_then_norm (hK6 ?_)
    refine wc_goto ?_
    refine wq_then_goto ?_
    refine wq_jump_hit ?_
    refine hG0 _ _ ⟨j, g4, d8, rfl, rfl, by omega, hg4', h12, h24, F, C1, C2, C4, D8.congr (by rw [hpb, if_pos (by omega)])⟩ (by omega) ⟨rfl, rfl, rfl, rfl, (by first | rfl | exact congrArg some (int_val (by omega))), trivial⟩
   ·skip
    refine wc_skip ?_
    refine wq_then_norm (hK6 ?_)
    refine wc_goto ?_
    refine wq_then_goto ?_
    refine wq_jump_hit ?_
    refine hG0 _ _ ⟨j, g4, d6, rfl, rfl, by omega, hg4', h12, h24, F, C1, C2, C4, D6.congr (by rw [hpb, if_neg (by omega)])⟩ (by omega) ⟨rfl, rfl, rfl, rfl, (by first | rfl | exact congrArg some (int_val (by omega))), trivial⟩
  ·skip
   refine wc_skip ?_
   refine wq_then_norm (hK3 ?_)
   refine wc_seq ?_; intro K8 hK8
   refine wc_region ?_
   refine wl_y ((y_loadw rfl Tryz.underlying135 rfl (by rw [D.size]; kernel_rfl) C4)) rfl ?_
   refine wl_ef (ef_storeW rfl rfl (by rw [D.size]; kernel_rfl) C2 (by rw [fe_size, D.size]) D.one) rfl ?_
   rintro _ w6 ⟨rfl, B6, cg⟩
   have F6 := F.chg cg hg2'
   refine wl_nil ?_
   refine wq_then_norm (hK8 ?_)
   refine wc_ret ?_
   refine wq_jump_ret ?_
   refine hret rfl B6 D.size ?_
   exact ⟨_, rfl, D.congr (by rw [show b = 0 by omega, Nat.pow_zero, Nat.div_one]), F6⟩
 ·intro G hG0
  refine wc_seq ?_; intro K9 hK9
  refine wc_region ?_
  refine wl_call Tryz.func151 rfl rfl rfl (Fnum_any 1 _ (by omega)) rfl ?_
  rintro e w3 ⟨d3, rfl, F3, ex⟩
  refine ⟨_, rfl, ?_⟩
  have E3 := E2.ext ex; replace B1 := B1.ext ex; replace B2 := B2.ext ex
  refine wl_ef (ef_alloc (Z := fe (fun _ => 0)) (by kernel_rfl)) rfl ?_
  rintro _ w4 ⟨g4, rfl, B4, hg4, ex⟩
  have E4 := E3.ext ex; replace B1 := B1.ext ex; have hl2 := B2.lt; replace B2 := B2.ext ex; have hg4' : w.heap.size ≤ g4 := Nat.le_trans E3.size hg4
  refine wl_ef (ef_storeW rfl rfl (by rw [F3.size]; kernel_rfl) B4 (by rw [fe_size, F3.size]) F3.one) rfl ?_
  rintro _ w5 ⟨rfl, B5, cg⟩
  have E5 := E4.chg cg hg4'; replace B1 := B1.chg cg (by have := B1.lt; omega); replace B2 := B2.chg cg (by omega)
  refine wl_nil ?_
  refine wq_then_norm (hK9 ?_)
  refine wc_seq ?_; intro K10 hK10
  refine wc_region ?_
  refine wl_y (y_move rfl) rfl ?_
  refine wl_y (y_len_slice rfl Tryz.underlying23) rfl ?_
  refine wl_y (y_mul rfl rfl (i64_nat (n := 8 * n) (by omega) (by omega))) rfl ?_
  refine wl_y (y_assign rfl) rfl ?_
  refine wl_nil ?_
  refine wq_then_norm (hK10 ?_)
  refine wc_seq ?_; intro KG0 hKG0
  refine wc_label ?_
  refine wq_then_norm (hKG0 ?_)
  exact hG0 _ _ ⟨8 * n, g4, d3, rfl, rfl, Nat.le_refl _, hg4', by omega, by have := E3.size; omega, E5, B1, B2, B5, F3.congr (by rw [Nat.div_eq_of_lt (by have := Fp.num_lt es; rw [hle] at this; rwa [Nat.pow_mul]), Fp.pow_zero]; rfl)⟩ ⟨rfl, rfl, rfl, rfl, (by first | rfl | exact congrArg some (int_val (by omega))), trivial⟩
end
end Go.Proofs.YtjllhimhiekchaaGreat
