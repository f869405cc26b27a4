/- The field's reference: Bytes and First; the law's 'is' and 'alive'. -/
import Derived.Test.YtbcbihdfpkeacaaFieldH
import Derived.Test.YtbcbihdfpkeacaaSame
namespace Go.Proofs.Ytbcbihdfpkeacaa
open Go.RowKit
attribute [local irreducible] Y Ef WL WC WK WQ WM OpM
theorem Row.cut {w : World} {base : Nat} {e : TypeId} {A : Option Addr} {n c : Nat} {xs : List Value} (h : Row w base e A n c xs) {k : Nat} (hk : k ≤ n) (h0 : 0 < k) : Row w base e A k c (xs.take k) := by
  have hl := h.len
  refine ⟨by rw [List.length_take]; omega, ?_⟩
  rcases h.2 with ⟨hv, rfl⟩ | ⟨g, cap, cur, hv, hb, hg, h1, h2, h3, h4⟩
  · simp at hl; omega
  · injection hv with hA hn hc
    subst hA; subst hc
    refine .inr ⟨g, c, cur, rfl, hb, hg, by omega, h2, h3, ?_⟩
    rw [← h4, List.take_take]
    congr 1
    omega
theorem Ns.app {w w' : World} {k : IntKind} {A B : Option Addr} {n c m : Nat} {ys : List Nat} (h : Ns k w B m ys) (hd : Dj A B) (hg : w.grownBy w' (Value.slice A n c).ownBlock) (hA : ∀ b o s, A = some ⟨b, o, s⟩ → s = none) : Ns k w' B m ys := by
  cases A with
  | none =>
    refine ⟨h.1, ?_⟩
    rcases h.2 with h0 | ⟨b, off, hB, hc⟩
    · exact .inl h0
    · exact .inr ⟨b, off, hB, fun j u hu => hg.cell (hc j u hu) (by simp [Value.ownBlock])⟩
  | some a =>
    obtain ⟨b8, o8, s8⟩ := a
    obtain rfl := hA b8 o8 s8 rfl
    exact Ns.grown h (g := b8) hg fun b off hB => fun e => hd b8 o8 b off rfl hB e.symm
theorem Fp.le_succ (i x : Nat) : Fp.le (i + 1) x = Fp.le i x ++ [UInt8.ofNat (x / 256 ^ i % 256)] := by
  unfold Fp.le; rw [List.range_succ, List.map_append]; rfl
theorem rbytes_any (A : Option Addr) (n c k v : Nat) (w : World) (HA : Bg w A n v) (hn : n ≤ 1000) (hk : k ≤ 1000) :
    Calls Try.prog 50 #[.slice A n c, .int .i64 (k : Int)] w fun e w' => ∃ A' c', e = .returned (.slice A' k c') ∧ Bs w' A' k (Fp.le k v) ∧ Ext w w' := by
  have hln := HA.len
  refine vc_enter1 28 Try.func50 rfl rfl rfl rfl ?_
  intro Q hret
  refine wc_seq ?_; intro K1 hK1
  refine wc_region ?_
  refine wl_y (y_assign rfl) rfl ?_
  refine wl_nil ?_
  refine wq_then_norm (hK1 ?_)
  refine wc_seq ?_; intro K2 hK2
  refine wc_region ?_
  refine wl_y (y_assign rfl) rfl ?_
  refine wl_nil ?_
  refine wq_then_norm (hK2 ?_)
  refine wc_seq ?_; intro K3 hK3
  refine wc_seq ?_; intro K4 hK4
  refine wc_region ?_
  refine wl_y (y_assign rfl) rfl ?_
  refine wl_nil ?_
  refine wq_then_norm (hK4 ?_)
  refine wc_block ?_
  refine wc_loop (fun n' L wr => ∃ (i n5 c5 c8 : Nat) (A5 A8 : Option Addr), L = [(0, .slice A5 n5 c5), (1, .int .i64 (k : Int)), (5, .slice A8 i c8), (6, .int .i64 (i : Int))] ∧ n' = k - i ∧ (i ≤ k ∧ Ext w wr ∧ Bg wr A5 n5 (v / 256 ^ i) ∧ Row wr w.heap.size 5 A8 i c8 ((Fp.le i v).map bv))) _ _ ⟨0, n, c, 0, A, none, rfl, rfl, by omega, Ext.refl _, HA.congr (by rw [Nat.pow_zero, Nat.div_one]), Row.empty _ _ _⟩ ⟨rfl, (by first | rfl | exact congrArg some (int_val (by omega))), rfl, (by first | rfl | exact congrArg some (int_val (by omega))), trivial⟩ ?_
  rintro KL1 n' L wr ⟨i, n5, c5, c8, A5, A8, rfl, rfl, hi, E, H5, R⟩ hL1
  refine wc_seq ?_; intro K5 hK5
  refine wc_seq ?_; intro K6 hK6
  refine wc_region ?_
  refine wl_y (y_move rfl) rfl ?_
  refine wl_y (y_move rfl) rfl ?_
  refine wl_y (y_lss rfl rfl) rfl ?_
  refine wl_nil ?_
  refine wq_then_norm (hK6 ?_)
  refine wc_dec rfl (fun hc1 => ?_) (fun hc1 => ?_)
  · skip
    refine wc_skip ?_
    refine wq_then_norm (hK5 ?_)
    refine wc_seq ?_; intro K7 hK7
    refine wc_block ?_
    refine wc_seq ?_; intro K8 hK8
    have hl5 := H5.len
    have hle := Big.length_le (Nat.div_le_self v (256 ^ i))
    refine wc_region ?_
    refine wl_y (y_move rfl) rfl ?_
    refine wl_call Try.func24 rfl rfl rfl (num_any 256 _ (by omega)) rfl ?_
    rintro e w1 ⟨A1, n1, c1, rfl, H1, k1, ex⟩
    refine ⟨_, rfl, ?_⟩
    have E1 := E.ext ex; have H5a := H5.ext ex; have hl1 := H1.len; have h1l := Big.digs_length_le 256 1 (by omega); have R1 := R.ext ex
    refine wl_call Try.func48 rfl rfl rfl (div_any A5 A1 n5 c5 n1 c1 _ 256 _ H5a H1 (by omega) (by omega) (by omega)) rfl ?_
    rintro e w2 ⟨A2, n2, c2, A3, n3, c3, rfl, H2, H3, k2, k3, kf, ex⟩
    refine ⟨_, rfl, ?_⟩
    have E2 := E1.ext ex; have R2 := R1.ext ex; have hl3 := H3.len; have h3l := Big.digs_length_le (v / 256 ^ i % 256) 1 (by omega)
    refine wl_y (y_move rfl) rfl ?_
    refine wl_y (y_extract rfl rfl) rfl ?_
    refine wl_y (y_extract rfl rfl) rfl ?_
    refine wl_y (y_assign rfl) rfl ?_
    refine wl_y (y_assign rfl) rfl ?_
    refine wl_nil ?_
    refine wq_then_norm (hK8 ?_)
    refine wc_seq ?_; intro K9 hK9
    refine wc_region ?_
    refine wl_y (y_move rfl) rfl ?_
    refine wl_y (y_move rfl) rfl ?_
    refine wl_call Try.func21 rfl rfl rfl (low_any A3 n3 c3 _ _ H3 (by omega)) rfl ?_
    rintro e w3 ⟨rfl, ex⟩
    refine ⟨_, rfl, ?_⟩
    have E3 := E2.ext ex; have R3 := R2.ext ex; have H2a := H2.ext ex; rw [Nat.mod_eq_of_lt (show v / 256 ^ i % 256 < 18446744073709551616 by omega)]
    refine wl_y (y_conv rfl Try.underlying23 Try.underlying5 (show IntKind.u8.wrap ((v / 256 ^ i % 256 : Nat) : Int) = ((UInt8.ofNat (v / 256 ^ i % 256)).toNat : Int) by rw [IntKind.wrap_u8', UInt8.toNat_ofNat']; omega)) rfl ?_
    refine wl_ef (ef_lit (z := .int .u8 0) Try.underlying22 (by kernel_rfl) rfl rfl rfl rfl rfl) rfl ?_
    rintro _ w4 ⟨g4, rfl, B4, hg4, ex⟩
    have E4 := E3.ext ex; have R4 := R3.ext ex; have H2b := H2a.ext ex; have hs4 := E4.size
    refine wl_ef (ef_app rfl rfl eltB R4 (At.blk (vs := [UInt8.ofNat (v / 256 ^ i % 256)].map bv) (B4.congr (by rfl))) rfl (by intro u hu; exact bv_one u hu) (by omega) (by omega) hs4) rfl ?_
    rintro _ w5 ⟨A6, c6, rfl, R6, be, gr, hl⟩
    have E5 := E4.trans be; have R7 := R6.cat; rw [← Fp.le_succ] at R7; have H2c : Bg w5 A2 n2 (v / 256 ^ i / 256) := Ns.app H2b (fun b o b' o' h1 h2 e => by subst h1; subst h2; have := (Row.lt R1).2; have := kf _ _ rfl; omega) gr R1.none_s
    refine wl_y (y_assign rfl) rfl ?_
    refine wl_nil ?_
    refine wq_then_norm (hK9 ?_)
    refine wc_region ?_
    refine wl_y (y_move rfl) rfl ?_
    refine wl_y (y_assign rfl) rfl ?_
    refine wl_nil ?_
    refine wq_blk_norm ?_
    refine wq_then_norm (hK7 ?_)
    refine wc_region ?_
    refine wl_y (y_move rfl) rfl ?_
    refine wl_y (y_add rfl rfl (i64_ok (by omega) (by omega))) rfl ?_
    refine wl_y (y_assign rfl) rfl ?_
    refine wl_nil ?_
    refine wq_then_norm ?_
    refine hL1 _ _ ⟨i + 1, n2, c2, c6, A2, A6, rfl, rfl, by omega, E5, H2c.congr (by rw [Nat.div_div_eq_div_mul, Nat.pow_succ]), R7⟩ (by omega) ⟨rfl, (by first | rfl | exact congrArg some (int_val (by omega))), rfl, (by first | rfl | exact congrArg some (int_val (by omega))), trivial⟩
  · skip
    refine wc_exit ?_
    refine wq_then_exit ?_
    refine wq_then_exit ?_
    refine wq_blk_hit ?_
    refine wq_then_norm (hK3 ?_)
    refine wc_seq ?_; intro K10 hK10
    refine wc_region ?_
    refine wl_y (y_move rfl) rfl ?_
    refine wl_y (y_assign rfl) rfl ?_
    refine wl_nil ?_
    refine wq_then_norm (hK10 ?_)
    refine wc_ret ?_
    refine hret rfl ?_
    obtain rfl : i = k := by omega
    exact ⟨A8, c8, rfl, R.bs, E⟩
end Go.Proofs.Ytbcbihdfpkeacaa
