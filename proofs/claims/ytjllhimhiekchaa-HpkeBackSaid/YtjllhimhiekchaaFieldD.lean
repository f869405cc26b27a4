/- The field's numbers of bytes: Of: what it hands back. -/
import Derived.Test.YtjllhimhiekchaaFieldB
import Derived.Test.YtjllhimhiekchaaFieldS
namespace Go.Proofs.Ytjllhimhiekchaa
open Go.RowKit
attribute [local irreducible] Y Ef WL WC WK WQ WM OpM
theorem shrc (x k c : Nat) (h : (2 : Int) ^ (min (k : Int).toNat IntKind.u64.bits) = (c : Int)) : (x : Int) / 2 ^ (min (k : Int).toNat IntKind.u64.bits) = ((x / c : Nat) : Int) := by
  rw [h]; exact (Int.natCast_ediv _ _).symm
theorem shl8 (x : Nat) (hx : x * 256 < 18446744073709551616) : IntKind.u64.wrap ((x : Int) * 2 ^ (min (8 : Int).toNat IntKind.u64.bits)) = ((x * 256 : Nat) : Int) := by
  rw [show (2 : Int) ^ (min (8 : Int).toNat IntKind.u64.bits) = 256 from rfl]
  exact u64_nat (by omega) hx
theorem or8 (a b : Nat) (hb : b < 256) (ha : a * 256 < 18446744073709551616) : bits .or .u64 ((a * 256 : Nat) : Int) (b : Int) = ((a * 256 + b : Nat) : Int) := by
  have h := (bits_u64 (p := a * 256) (q := b) ha (by omega)).2.1
  rw [h, show a * 256 = 2 ^ 8 * a by omega, Nat.two_pow_add_eq_or_of_lt (show b < 2 ^ 8 from hb)]
theorem ofw_any (g o : Nat) (t : TypeId) (X : List UInt8) (w : World) (B : Blk w g t (bys X)) (hX : X.length = 32) (ho : o + 8 ≤ 32) :
    Calls Try.prog 74 #[.int .i64 (o : Int), .pointer (some ⟨g, 0, none⟩)] w fun e w' => e = .returned (.int .u64 ((Fp.word X o : Nat) : Int)) ∧ Ext w w' := by
  refine vc_enter1 20 Try.func74 rfl rfl rfl rfl ?_
  intro Q hret
  refine wc_seq ?_; intro K1 hK1
  refine wc_region ?_
  refine wl_y (y_assign rfl) rfl ?_
  refine wl_nil ?_
  refine wq_then_norm (hK1 ?_)
  refine wc_seq ?_; intro K2 hK2
  refine wc_region ?_
  refine wl_y (y_assign rfl) rfl ?_
  refine wl_nil ?_
  refine wq_then_norm (hK2 ?_)
  refine wc_seq ?_; intro K3 hK3
  refine wc_seq ?_; intro K4 hK4
  refine wc_region ?_
  refine wl_y (y_assign rfl) rfl ?_
  refine wl_nil ?_
  refine wq_then_norm (hK4 ?_)
  refine wc_block ?_
  refine wc_loop (fun n' L wr => ∃ j x : Nat, L = [(0, .int .i64 (o : Int)), (1, .pointer (some ⟨g, 0, none⟩)), (4, .int .u64 (x : Int)), (5, .int .i64 ((j : Int) - 1))] ∧ n' = 1 + j ∧ (j ≤ 8 ∧ wr = w ∧ x = Fp.num ((X.drop (o + j)).take (8 - j)))) _ _ ⟨8, 0, rfl, rfl, by omega, rfl, by simp [Fp.num]⟩ ⟨(by first | rfl | exact congrArg some (int_val (by omega))), rfl, (by first | rfl | exact congrArg some (int_val (by omega))), (by first | rfl | exact congrArg some (int_val (by omega))), trivial⟩ ?_
  rintro KL1 n' L wr ⟨j, x, rfl, rfl, hj, rfl, hx⟩ hL1
  refine wc_seq ?_; intro K5 hK5
  refine wc_seq ?_; intro K6 hK6
  refine wc_region ?_
  refine wl_y (y_move rfl) rfl ?_
  refine wl_y (y_geq rfl rfl) rfl ?_
  refine wl_nil ?_
  refine wq_then_norm (hK6 ?_)
  refine wc_dec rfl (fun hc1 => ?_) (fun hc1 => ?_)
  · skip
    refine wc_skip ?_
    refine wq_then_norm (hK5 ?_)
    refine wc_seq ?_; intro K7 hK7
    refine wc_block ?_
    obtain ⟨j, rfl⟩ : ∃ i, j = i + 1 := ⟨j - 1, by omega⟩
    rw [show (((j + 1 : Nat) : Int) - 1) = (j : Int) by omega]
    have hst := Fp.word_step X o j (by omega) (by omega)
    have hlt := Fp.part_lt X o (j + 1) (by omega)
    have hp : 256 ^ (8 - (j + 1)) ≤ 256 ^ 7 := Nat.pow_le_pow_right (by omega) (by omega)
    rw [← hx] at hst hlt
    obtain ⟨b, hb⟩ : ∃ b, b = (X.getD (o + j) 0).toNat := ⟨_, rfl⟩
    have hbl : b < 256 := by rw [hb]; exact UInt8.toNat_lt _
    rw [← hb] at hst
    have hx7 : x < 72057594037927936 := by omega
    refine wc_region ?_
    refine wl_y (y_move rfl) rfl ?_
    refine wl_y (y_shl rfl rfl (by omega) (shl8 x (by omega))) rfl ?_
    refine wl_y (y_move rfl) rfl ?_
    refine wl_y (y_move rfl) rfl ?_
    refine wl_y (y_add rfl rfl (i64_ok (by omega) (by omega))) rfl ?_
    refine wl_y (y_ixa1 rfl rfl Try.underlying95 (by kernel_rfl) (j := o + j) (by omega) (by omega)) rfl ?_
    refine wl_y (y_load1 rfl Try.underlying5 rfl (B.get (v := .int .u8 (b : Int)) (by rw [Nat.zero_add, bys_get (by omega), hb]))) rfl ?_
    refine wl_y (y_conv rfl Try.underlying5 Try.underlying52 (IntWalk.u64_in _ ⟨by omega, by omega⟩)) rfl ?_
    refine wl_y (y_or rfl rfl (or8 x b hbl (by omega))) rfl ?_
    refine wl_y (y_assign rfl) rfl ?_
    refine wl_nil ?_
    refine wq_blk_norm ?_
    refine wq_then_norm (hK7 ?_)
    refine wc_region ?_
    refine wl_y (y_move rfl) rfl ?_
    refine wl_y (y_sub rfl rfl (i64_ok (by omega) (by omega))) rfl ?_
    refine wl_y (y_assign rfl) rfl ?_
    refine wl_nil ?_
    refine wq_then_norm ?_
    refine hL1 _ _ ⟨j, x * 256 + b, rfl, rfl, by omega, rfl, by rw [hst]; omega⟩ (by omega) ⟨(by first | rfl | exact congrArg some (int_val (by omega))), rfl, (by first | rfl | exact congrArg some (int_val (by omega))), (by first | rfl | exact congrArg some (int_val (by omega))), trivial⟩
  · skip
    refine wc_exit ?_
    refine wq_then_exit ?_
    refine wq_then_exit ?_
    refine wq_blk_hit ?_
    refine wq_then_norm (hK3 ?_)
    refine wc_seq ?_; intro K8 hK8
    refine wc_region ?_
    refine wl_y (y_move rfl) rfl ?_
    refine wl_y (y_assign rfl) rfl ?_
    refine wl_nil ?_
    refine wq_then_norm (hK8 ?_)
    refine wc_ret ?_
    refine hret rfl ?_
    obtain rfl : j = 0 := by omega
    exact ⟨by rw [hx]; rfl, Ext.refl _⟩
theorem ef_word {L : List (Nat × Value)} {w : World} {ty t : TypeId} {z y : Operand} {ats : Array TypeId} {g o : Nat} {X : List UInt8} (hz : ev L z = some (.func (.func 74) #[] #[.pointer (some ⟨g, 0, none⟩)])) (hy : ev L y = some (.int .i64 (o : Int))) (B : Blk w g t (bys X)) (hX : X.length = 32) (ho : o + 8 ≤ 32) :
    Ef Try.prog L w (.call { callee := .value z, args := #[y], argTypes := ats }) ty fun v w' => v = .int .u64 ((Fp.word X o : Nat) : Int) ∧ Ext w w' :=
  ef_callv (us := [.pointer (some ⟨g, 0, none⟩)]) (xs := [y]) (vs := [.int .i64 (o : Int)]) hz Try.func74 rfl rfl (by simp [evs, hy]) (ofw_any g o t X w B hX ho) (fun _ _ h => ⟨_, h.1, rfl, h.2⟩)
theorem padded {w : World} {g : Nat} {t : TypeId} (b : List UInt8) (h : Blk w g t ((bys (zbs 32)).toList.take 0 ++ (b.take 32).map bv ++ (bys (zbs 32)).toList.drop (0 + ((b.take 32).map bv).length)).toArray) : Blk w g t (bys (Fp.pad b)) := by
  refine h.congr ?_
  unfold bys Fp.pad
  rw [List.map_append]
  congr 1
  rw [List.take_zero, List.nil_append, Nat.zero_add, List.length_map, List.toList_toArray]
  congr 1
  unfold zbs
  rw [List.map_replicate, List.drop_replicate, List.map_replicate]
theorem fof_any (A : Option Addr) (n c : Nat) (b : List UInt8) (w : World) (HA : Bs w A n b) :
    Calls Try.prog 54 #[.slice A n c] w fun e w' => ∃ es, e = .returned (.agg es) ∧ Fe es (Fp.ofB b) ∧ Ext w w' := by
  have hX := Fp.pad_length b
  have HT : Bs w A (min n 32) (b.take 32) := by
    have h := HA.take (k := min n 32) (by omega)
    have hn := HA.1
    rcases Nat.le_total n 32 with h1 | h1
    · rw [Nat.min_eq_left h1, List.take_of_length_le (by omega)] at h
      rw [Nat.min_eq_left h1, List.take_of_length_le (by omega)]; exact h
    · rw [Nat.min_eq_right h1] at h ⊢; exact h
  refine vc_enterc1 (s := 5) 30 Try.func54 rfl rfl rfl Try.underlying55 rfl (by kernel_rfl) rfl ?_
  intro Q hret
  refine wc_seq ?_; intro K1 hK1
  refine wc_region ?_
  refine wl_ef (ef_alloc (Z := fe (fun _ => 0)) (by kernel_rfl)) rfl ?_
  rintro _ w1 ⟨g1, rfl, B1, hg1, ex⟩
  have E := ex; have hl1 := B1.lt
  refine wl_nil ?_
  refine wq_then_norm (hK1 ?_)
  refine wc_seq ?_; intro K2 hK2
  refine wc_region ?_
  refine wl_ef (ef_alloc (Z := bys (zbs 32)) (by kernel_rfl)) rfl ?_
  rintro _ w2 ⟨g2, rfl, B2, hg2, ex⟩
  replace E := E.ext ex; replace B1 := B1.ext ex; have hg2' : w.heap.size ≤ g2 := by omega
  refine wl_nil ?_
  refine wq_then_norm (hK2 ?_)
  refine wc_seq ?_; intro K3 hK3
  refine wc_region ?_
  refine wl_y (y_cutarr (s := 1) rfl Try.underlying95 (by kernel_rfl)) rfl ?_
  refine wl_y (y_move rfl) rfl ?_
  refine wl_ef (ef_copy rfl rfl Try.underlying22 (by kernel_rfl) B2 (HT.wk E).2 (by rw [List.length_map, HT.1]) (by rw [List.length_map, HT.1, bys_size]; simp [zbs]; omega) (by intro u hu; exact bv_one u hu)) rfl ?_
  rintro _ w3 ⟨rfl, B3, cg⟩
  replace B3 := padded b B3; replace E := E.chg cg (Nat.le_trans (by have := hg1; omega) hg2); replace B1 := B1.chg cg (by omega)
  refine wl_nil ?_
  refine wq_then_norm (hK3 ?_)
  refine wc_seq ?_; intro K4 hK4
  refine wc_region ?_
  refine wl_y (y_func rfl) rfl ?_
  refine wl_y (y_assign rfl) rfl ?_
  refine wl_nil ?_
  refine wq_then_norm (hK4 ?_)
  refine wc_seq ?_; intro K5 hK5
  refine wc_region ?_
  refine wl_y (y_move rfl) rfl ?_
  refine wl_ef (ef_word (o := 0) rfl rfl B3 hX (by omega)) rfl ?_
  rintro _ w4 ⟨rfl, ex⟩
  replace E := E.ext ex
  replace B1 := B1.ext ex
  replace B3 := B3.ext ex
  skip
  refine wl_y (y_and rfl rfl (and51 _ (Fp.word_lt _ 0 (by omega)))) rfl ?_
  refine wl_y (y_move rfl) rfl ?_
  refine wl_ef (ef_word (o := 6) rfl rfl B3 hX (by omega)) rfl ?_
  rintro _ w5 ⟨rfl, ex⟩
  replace E := E.ext ex
  replace B1 := B1.ext ex
  replace B3 := B3.ext ex
  skip
  refine wl_y (y_shr rfl rfl (by omega) (shrc _ 3 8 rfl)) rfl ?_
  refine wl_y (y_and rfl rfl (and51 _ (by have := Fp.word_lt (Fp.pad b) 6 (by omega); omega))) rfl ?_
  refine wl_y (y_move rfl) rfl ?_
  refine wl_ef (ef_word (o := 12) rfl rfl B3 hX (by omega)) rfl ?_
  rintro _ w6 ⟨rfl, ex⟩
  replace E := E.ext ex
  replace B1 := B1.ext ex
  replace B3 := B3.ext ex
  skip
  refine wl_y (y_shr rfl rfl (by omega) (shrc _ 6 64 rfl)) rfl ?_
  refine wl_y (y_and rfl rfl (and51 _ (by have := Fp.word_lt (Fp.pad b) 12 (by omega); omega))) rfl ?_
  refine wl_y (y_move rfl) rfl ?_
  refine wl_ef (ef_word (o := 19) rfl rfl B3 hX (by omega)) rfl ?_
  rintro _ w7 ⟨rfl, ex⟩
  replace E := E.ext ex
  replace B1 := B1.ext ex
  replace B3 := B3.ext ex
  skip
  refine wl_y (y_shr rfl rfl (by omega) (shrc _ 1 2 rfl)) rfl ?_
  refine wl_y (y_and rfl rfl (and51 _ (by have := Fp.word_lt (Fp.pad b) 19 (by omega); omega))) rfl ?_
  refine wl_y (y_move rfl) rfl ?_
  refine wl_ef (ef_word (o := 24) rfl rfl B3 hX (by omega)) rfl ?_
  rintro _ w8 ⟨rfl, ex⟩
  replace E := E.ext ex
  replace B1 := B1.ext ex
  replace B3 := B3.ext ex
  skip
  refine wl_y (y_shr rfl rfl (by omega) (shrc _ 12 4096 rfl)) rfl ?_
  refine wl_y (y_and rfl rfl (and51 _ (by have := Fp.word_lt (Fp.pad b) 24 (by omega); omega))) rfl ?_
  refine wl_y (y_build rfl (cells := fe (Fp.ofL (Fp.pad b))) (by kernel_rfl)) rfl ?_
  refine wl_y (y_build rfl (cells := fe (Fp.ofL (Fp.pad b))) (by kernel_rfl)) rfl ?_
  refine wl_ef (ef_storeW rfl rfl (by rw [fe_size]; kernel_rfl) B1 (by rw [fe_size, fe_size]) (fe_one _)) rfl ?_
  rintro _ w9 ⟨rfl, B9, cg⟩
  have E9 := E.chg cg hg1
  refine wl_nil ?_
  refine wq_then_norm (hK5 ?_)
  refine wc_ret ?_
  refine hret rfl B9 (fe_size _) ?_
  exact ⟨_, rfl, ⟨_, rfl, fun j _ => by have := Fp.ofL_lt (Fp.pad b) j; omega, by rw [Fp.ofL_val _ hX, Fp.num_pad]; rfl⟩, E9⟩
end Go.Proofs.Ytjllhimhiekchaa
