/- The reference of scalars: the order, modulo it. Signatures as the program makes them: the halves of a digest, the secret, the public key. Signatures as the program makes them: whether one holds; one made. Signatures: the layer's alive, plainly: a public key that is known. Signatures: the layer's alive; the reference's digest; the law SignHolds. -/
import Derived.Test.YtopimmomkapdoaaScA
import Derived.Test.YtopimmomkapdoaaFieldI
import Derived.Test.YtopimmomkapdoaaFieldQ
import Derived.Test.YtopimmomkapdoaaVc7
import Derived.Test.YtopimmomkapdoaaScE
import Derived.Test.YtopimmomkapdoaaScC
import Derived.Test.YtopimmomkapdoaaLongE
import Derived.Test.YtopimmomkapdoaaLongJ
namespace Go.Proofs.Ytopimmomkapdoaa
section
open Go.RowKit
namespace Sc
def ords : List UInt8 := [50, 55, 55, 52, 50, 51, 49, 55, 55, 55, 55, 51, 55, 50, 51, 53, 51, 53, 51, 53, 56, 53, 49, 57, 51, 55, 55, 57, 48, 56, 56, 51, 54, 52, 56, 52, 57, 51]
def dec : Nat → Nat
  | 0 => 0
  | i + 1 => dec i * 10 + ((ords.getD i 0).toNat - 48)
theorem dec_le : ∀ i : Fin 39, dec i.val ≤ L := by decide +kernel
theorem ord_dig : ∀ i : Fin 38, 48 ≤ (ords.getD i.val 0).toNat ∧ (ords.getD i.val 0).toNat < 58 := by decide +kernel
theorem dec_all : 2 ^ 252 + dec 38 = L := by decide +kernel
theorem ba_get (l : List UInt8) (s : ByteArray) (hs : s = ⟨l.toArray⟩) {i : Nat} (h : i < l.length) : s[i]? = some (l.getD i 0) := by
  subst hs
  rw [List.getD_eq_getElem?_getD, List.getElem?_eq_getElem h]
  show (ByteArray.mk l.toArray)[i]? = some l[i]
  rw [getElem?_pos (ByteArray.mk l.toArray) i (show i < (ByteArray.mk l.toArray).size from by simpa [ByteArray.size] using h)]
  rfl
theorem L_len : (Big.digs L).length ≤ 17 := Big.digs_length_le L 17 (by decide +kernel)
end Sc
attribute [local irreducible] Y Ef WL WC WK WQ WM OpM WN WF OpN
theorem rorder_any (w : World) : Calls Try.prog 36 #[] w fun e w' => ∃ A' n' c', e = .returned (.slice A' n' c') ∧ Bg w' A' n' Sc.L ∧ n' ≤ 17 ∧ Ext w w' := by
  have hLl := Sc.L_len
  have hsz : (ByteArray.mk Sc.ords.toArray).size = 38 := rfl
  refine vc_enter1 23 Try.func36 rfl rfl rfl rfl ?_
  intro Q hret
  refine wc_seq ?_; intro K1 hK1
  refine wc_region ?_
  refine wl_y (y_assign rfl) rfl ?_
  refine wl_nil ?_
  refine wq_then_norm (hK1 ?_)
  refine wc_seq ?_; intro K2 hK2
  refine wc_region ?_
  refine wl_y (y_assign rfl) rfl ?_
  refine wl_nil ?_
  refine wq_then_norm (hK2 ?_)
  refine wc_seq ?_; intro K3 hK3
  refine wc_region ?_
  refine wl_y (y_assign rfl) rfl ?_
  refine wl_nil ?_
  refine wq_then_norm (hK3 ?_)
  refine wc_seq ?_; intro K4 hK4
  refine wc_seq ?_; intro K5 hK5
  refine wc_region ?_
  refine wl_y (y_assign rfl) rfl ?_
  refine wl_nil ?_
  refine wq_then_norm (hK5 ?_)
  refine wc_block ?_
  refine wc_loop (fun n' L wr => ∃ (i n1 c1 : Nat) (A1 : Option Addr), L = [(1, .slice A1 n1 c1), (2, .string ⟨Sc.ords.toArray⟩), (3, .int .i64 (i : Int))] ∧ n' = 38 - i ∧ (i ≤ 38 ∧ Ext w wr ∧ Bg wr A1 n1 (Sc.dec i))) _ _ ⟨0, 0, 0, none, rfl, rfl, by omega, Ext.refl _, Ns.nil _ _⟩ ⟨rfl, rfl, (by first | rfl | exact congrArg some (int_val (by omega))), trivial⟩ ?_
  rintro KL1 n' L wr ⟨i, n1, c1, A1, rfl, rfl, hi, E, H1⟩ hL1
  refine wc_seq ?_; intro K6 hK6
  refine wc_seq ?_; intro K7 hK7
  refine wc_region ?_
  refine wl_y (y_move rfl) rfl ?_
  refine wl_y (y_move rfl) rfl ?_
  refine wl_y (y_len_str rfl Try.underlying9) rfl ?_
  refine wl_y (y_lss rfl rfl) rfl ?_
  refine wl_nil ?_
  refine wq_then_norm (hK7 ?_)
  refine wc_dec rfl (fun hc1 => ?_) (fun hc1 => ?_)
  · skip
    refine wc_skip ?_
    refine wq_then_norm (hK6 ?_)
    refine wc_seq ?_; intro K8 hK8
    refine wc_block ?_
    have hi38 : i < 38 := by omega
    have hd := Sc.ord_dig ⟨i, hi38⟩
    have hle1 := Sc.dec_le ⟨i, by omega⟩
    have hle2 := Sc.dec_le ⟨i + 1, by omega⟩
    simp only at hd hle1 hle2
    have hl1 := H1.len
    have h1 := Big.length_le hle1
    have h2 := Big.length_le hle2
    refine wc_draw (by kernel_rfl) 11 rfl ?_; intro wd6 ex hd6
    replace E := E.ext ex
    replace H1 := H1.ext ex
    refine wm_y 0 rfl (by kernel_rfl) (y_move rfl) rfl ?_
    refine wm_y 3 rfl (by kernel_rfl) (y_move rfl) rfl ?_
    refine wm_y 4 rfl (by kernel_rfl) (y_move rfl) rfl ?_
    refine wm_y 5 rfl (by kernel_rfl) (y_ixstr rfl rfl Try.underlying9 rfl (Sc.ba_get Sc.ords _ rfl (by exact hi38))) rfl ?_
    refine wm_y 6 rfl (by kernel_rfl) (y_conv rfl Try.underlying5 Try.underlying59 (show IntKind.u64.wrap (((Sc.ords.getD i 0).toNat : Nat) : Int) = _ from u64_nat rfl (by omega))) rfl ?_
    refine wm_y 7 rfl (by kernel_rfl) (y_sub rfl rfl (u64_nat (n := (Sc.ords.getD i 0).toNat - 48) (by omega) (by omega))) rfl ?_
    refine wm_one 1 (by kernel_rfl) ?_; refine om_call rfl Try.func88 rfl rfl rfl (num_any 10 _ (by omega)) rfl ?_
    rintro e w2 ⟨A2, n2, c2, rfl, H2, _, ex⟩
    refine ⟨_, rfl, .inr ex, ?_⟩
    replace E := E.ext ex
    replace H1 := H1.ext ex
    have hl2 := H2.len; have h10 := Big.digs_length_le 10 1 (by omega)
    refine wm_one 2 (by kernel_rfl) ?_; refine om_call rfl Try.func53 rfl rfl rfl (mul_any A1 A2 n1 c1 n2 c2 _ _ _ H1 H2 (by omega) (by omega)) rfl ?_
    rintro e w3 ⟨A3, n3, c3, rfl, H3, hn3, _, ex⟩
    refine ⟨_, rfl, .inr ex, ?_⟩
    replace E := E.ext ex
    replace H1 := H1.ext ex
    skip
    refine wm_one 8 (by kernel_rfl) ?_; refine om_call rfl Try.func88 rfl rfl rfl (num_any ((Sc.ords.getD i 0).toNat - 48) _ (by omega)) rfl ?_
    rintro e w4 ⟨A4, n4, c4, rfl, H4, _, ex⟩
    refine ⟨_, rfl, .inr ex, ?_⟩
    replace E := E.ext ex
    replace H1 := H1.ext ex
    replace H3 := H3.ext ex
    have hl4 := H4.len; have h4 := Big.digs_length_le ((Sc.ords.getD i 0).toNat - 48) 1 (by omega)
    refine wm_one 9 (by kernel_rfl) ?_; refine om_call rfl Try.func52 rfl rfl rfl (add_any A3 A4 n3 c3 n4 c4 _ _ _ H3 H4 (by omega) (by omega)) rfl ?_
    rintro e w5 ⟨A5, n5, c5, rfl, H5, _, _, ex⟩
    refine ⟨_, rfl, .inr ex, ?_⟩
    replace E := E.ext ex
    replace H1 := H1.ext ex
    replace H3 := H3.ext ex
    skip
    refine wm_y 10 rfl (by kernel_rfl) (y_assign rfl) rfl ?_
    refine wm_done (by kernel_rfl) ?_
    refine wq_nop ?_
    refine wq_blk_norm ?_
    refine wq_then_norm (hK8 ?_)
    refine wc_region ?_
    refine wl_y (y_move rfl) rfl ?_
    refine wl_y (y_add rfl rfl (i64_ok (by omega) (by omega))) rfl ?_
    refine wl_y (y_assign rfl) rfl ?_
    refine wl_nil ?_
    refine wq_then_norm ?_
    refine hL1 _ _ ⟨i + 1, n5, c5, A5, rfl, rfl, by omega, E, H5⟩ (by omega) ⟨rfl, rfl, (by first | rfl | exact congrArg some (int_val (by omega))), trivial⟩
  · skip
    refine wc_exit ?_
    refine wq_then_exit ?_
    refine wq_then_exit ?_
    refine wq_blk_hit ?_
    refine wq_then_norm (hK4 ?_)
    refine wc_seq ?_; intro K9 hK9
    obtain rfl : i = 38 := by omega
    have hl1 := H1.len
    have hle1 := Big.length_le (Sc.dec_le ⟨38, by omega⟩)
    simp only at hle1
    refine wc_region ?_
    refine wl_call Try.func89 rfl rfl rfl (pow_any 252 _ (by omega)) rfl ?_
    rintro e w6 ⟨A6, n6, c6, rfl, H6, hn6, _, ex⟩
    refine ⟨_, rfl, ?_⟩
    replace E := E.ext ex
    replace H1 := H1.ext ex
    skip
    refine wl_y (y_move rfl) rfl ?_
    refine wl_call Try.func52 rfl rfl rfl (add_any A6 A1 n6 c6 n1 c1 _ _ _ H6 H1 (by omega) (by omega)) rfl ?_
    rintro e w7 ⟨A7, n7, c7, rfl, H7, _, _, ex⟩
    refine ⟨_, rfl, ?_⟩
    replace E := E.ext ex
    replace H1 := H1.ext ex
    rw [Sc.dec_all] at H7; have hl7 := H7.len
    refine wl_y (y_assign rfl) rfl ?_
    refine wl_nil ?_
    refine wq_then_norm (hK9 ?_)
    refine wc_ret ?_
    refine hret rfl ?_
    exact ⟨A7, n7, c7, rfl, H7, by omega, E⟩
theorem rmod08_any (A : Option Addr) (n c v : Nat) (w : World) (HA : Bg w A n v) (hn : n ≤ 1000) :
    Calls Try.prog 48 #[.slice A n c] w fun e w' => ∃ A' n' c', e = .returned (.slice A' n' c') ∧ Bg w' A' n' (v % Sc.L) ∧ n' ≤ 17 ∧ Ext w w' := by
  have E := Ext.refl w
  have hLl := Sc.L_len
  have hLp : 0 < Sc.L := by rw [Sc.L_eq]; omega
  refine vc_enter1 12 Try.func48 rfl rfl rfl rfl ?_
  intro Q hret
  refine wc_seq ?_; intro K1 hK1
  refine wc_region ?_
  refine wl_y (y_assign rfl) rfl ?_
  refine wl_nil ?_
  refine wq_then_norm (hK1 ?_)
  refine wc_seq ?_; intro K2 hK2
  refine wc_region ?_
  refine wl_y (y_move rfl) rfl ?_
  refine wl_call Try.func36 rfl rfl rfl (rorder_any _) rfl ?_
  rintro e w1 ⟨A1, n1, c1, rfl, H1, h1, ex⟩
  refine ⟨_, rfl, ?_⟩
  replace E := E.ext ex
  replace HA := HA.ext ex
  skip
  refine wl_call Try.func103 rfl rfl rfl (div_any A A1 n c n1 c1 v Sc.L _ HA H1 hLp (by omega) (by omega)) rfl ?_
  rintro e w2 ⟨A2, n2, c2, A3, n3, c3, rfl, H2, H3, _, _, _, ex⟩
  refine ⟨_, rfl, ?_⟩
  replace E := E.ext ex
  replace HA := HA.ext ex
  have hl3 := H3.len; have h3 := Big.length_le (Nat.le_of_lt (Nat.mod_lt v hLp))
  refine wl_y (y_move rfl) rfl ?_
  refine wl_y (y_extract rfl rfl) rfl ?_
  refine wl_y (y_extract rfl rfl) rfl ?_
  refine wl_y (y_assign rfl) rfl ?_
  refine wl_y (y_assign rfl) rfl ?_
  refine wl_nil ?_
  refine wq_then_norm (hK2 ?_)
  refine wc_seq ?_; intro K3 hK3
  refine wc_region ?_
  refine wl_y (y_move rfl) rfl ?_
  refine wl_y (y_assign rfl) rfl ?_
  refine wl_nil ?_
  refine wq_then_norm (hK3 ?_)
  refine wc_ret ?_
  refine hret rfl ?_
  exact ⟨A3, n3, c3, rfl, H3, by omega, E⟩
theorem rof08_any (A : Option Addr) (n c : Nat) (xs : List UInt8) (w : World) (HA : Bs w A n xs) (hc : n ≤ c) (hn : n ≤ 900) :
    Calls Try.prog 90 #[.slice A n c] w fun e w' => ∃ A' n' c', e = .returned (.slice A' n' c') ∧ Bg w' A' n' (Fp.num (xs.take 64) % Sc.L) ∧ n' ≤ 17 ∧ Ext w w' := by
  have E := Ext.refl w
  have hl := HA.1
  refine vc_enter1 11 Try.func90 rfl rfl rfl rfl ?_
  intro Q hret
  refine wc_seq ?_; intro K1 hK1
  refine wc_region ?_
  refine wl_y (y_assign rfl) rfl ?_
  refine wl_nil ?_
  refine wq_then_norm (hK1 ?_)
  refine wc_seq ?_; intro K2 hK2
  refine wc_seq ?_; intro K3 hK3
  refine wc_region ?_
  refine wl_y (y_move rfl) rfl ?_
  refine wl_y (y_len_slice rfl Try.underlying22) rfl ?_
  refine wl_y (y_gtr rfl rfl) rfl ?_
  refine wl_nil ?_
  refine wq_then_norm (hK3 ?_)
  refine wc_dec rfl (fun hc1 => ?_) (fun hc1 => ?_)
  · skip
    refine wc_region ?_
    refine wl_y (y_move rfl) rfl ?_
    refine wl_y (y_cuth (s := 1) rfl rfl Try.underlying22 (by kernel_rfl) (j := 64) rfl (by omega)) rfl ?_
    refine wl_y (y_assign rfl) rfl ?_
    refine wl_nil ?_
    refine wq_then_norm (hK2 ?_)
    refine wc_seq ?_; intro K4 hK4
    refine wc_region ?_
    refine wl_y (y_move rfl) rfl ?_
    refine wl_call Try.func34 rfl rfl rfl (rof_any A 64 c (xs.take 64) _ (HA.take (by omega)) (by omega)) rfl ?_
    rintro e w1 ⟨A1, n1, c1, rfl, H1, _, h1, ex⟩
    refine ⟨_, rfl, ?_⟩
    replace E := E.ext ex
    skip
    refine wl_call Try.func48 rfl rfl rfl (rmod08_any A1 n1 c1 _ _ H1 (by omega)) rfl ?_
    rintro e w2 ⟨A2, n2, c2, rfl, H2, h2, ex⟩
    refine ⟨_, rfl, ?_⟩
    replace E := E.ext ex
    skip
    refine wl_y (y_assign rfl) rfl ?_
    refine wl_nil ?_
    refine wq_then_norm (hK4 ?_)
    refine wc_ret ?_
    refine hret rfl ?_
    exact ⟨A2, n2, c2, rfl, H2, h2, E⟩
  · skip
    refine wc_skip ?_
    refine wq_then_norm (hK2 ?_)
    refine wc_seq ?_; intro K5 hK5
    refine wc_region ?_
    refine wl_y (y_move rfl) rfl ?_
    refine wl_call Try.func34 rfl rfl rfl (rof_any A n c (xs.take 64) _ (by rw [List.take_of_length_le (by omega)]; exact HA) (by omega)) rfl ?_
    rintro e w1 ⟨A1, n1, c1, rfl, H1, _, h1, ex⟩
    refine ⟨_, rfl, ?_⟩
    replace E := E.ext ex
    skip
    refine wl_call Try.func48 rfl rfl rfl (rmod08_any A1 n1 c1 _ _ H1 (by omega)) rfl ?_
    rintro e w2 ⟨A2, n2, c2, rfl, H2, h2, ex⟩
    refine ⟨_, rfl, ?_⟩
    replace E := E.ext ex
    skip
    refine wl_y (y_assign rfl) rfl ?_
    refine wl_nil ?_
    refine wq_then_norm (hK5 ?_)
    refine wc_ret ?_
    refine hret rfl ?_
    exact ⟨A2, n2, c2, rfl, H2, h2, E⟩
end
section
open Go.RowKit
attribute [local irreducible] Y Ef WL WC WK WQ WM OpM WN WF OpN
namespace Sg
theorem andNot7' : ∀ x : Fin 256, bits .andNot .u8 ((x.val : Nat) : Int) 7 = ((x.val / 8 * 8 : Nat) : Int) := by decide +kernel
theorem and63' : ∀ x : Fin 256, bits .and .u8 ((x.val : Nat) : Int) 63 = ((x.val % 64 : Nat) : Int) := by decide +kernel
theorem or64' : ∀ x : Fin 64, bits .or .u8 ((x.val : Nat) : Int) 64 = ((x.val + 64 : Nat) : Int) := by decide +kernel
/-- The digest of a seed, turned. -/
def turned (h : List UInt8) : List UInt8 := (h.set 0 (UInt8.ofNat ((h.getD 0 0).toNat / 8 * 8))).set 31 (UInt8.ofNat ((h.getD 31 0).toNat % 64 + 64))
theorem turned_length (h : List UInt8) : (turned h).length = h.length := by unfold turned; simp
theorem turned_drop (h : List UInt8) : (turned h).drop 32 = h.drop 32 := by
  unfold turned; rw [List.drop_set_of_lt (by omega), List.drop_set_of_lt (by omega)]
def raw (seed : List UInt8) : Nat := Fp.num ((turned (Lng.sum seed)).take 32)
def sec (seed : List UInt8) : Nat := raw seed % Sc.L
def pre (seed : List UInt8) : List UInt8 := (Lng.sum seed).drop 32
theorem pre_length (seed : List UInt8) : (pre seed).length = 32 := by unfold pre; rw [List.length_drop, Lng.sum_length]
theorem sec_lt (seed : List UInt8) : sec seed < Sc.L := Nat.mod_lt _ Sc.L_pos
/-- A digest as a scalar. -/
def dig (xs : List UInt8) : Nat := Fp.num (Lng.sum xs) % Sc.L
theorem dig_lt (xs : List UInt8) : dig xs < Sc.L := Nat.mod_lt _ Sc.L_pos
theorem dig_take (xs : List UInt8) : Fp.num ((Lng.sum xs).take 64) % Sc.L = dig xs := by rw [List.take_of_length_le (by rw [Lng.sum_length]; omega)]; rfl
def pub (seed : List UInt8) : List UInt8 := Ed.enc (Ed.mul (sec seed) Ed.B)
end Sg
theorem halves_any (A : Option Addr) (n c : Nat) (xs : List UInt8) (w : World) (HA : Bs w A n xs) (hn : n ≤ 800000) :
    Calls Try.prog 106 #[.slice A n c] w fun e w' => ∃ g, e = .returned (.tuple #[.agg (ws (Sc.wd (Sg.sec xs))), .slice (some ⟨g, 32, none⟩) 32 32]) ∧ Bs w' (some ⟨g, 32, none⟩) 32 (Sg.pre xs) ∧ w.heap.size ≤ g ∧ Ext w w' := by
  have E := Ext.refl w
  have hxl := HA.1
  obtain ⟨h, hh⟩ : ∃ h, h = Lng.sum xs := ⟨_, rfl⟩
  have hl : h.length = 64 := by rw [hh, Lng.sum_length]
  obtain ⟨x0, hx0⟩ : ∃ x, x = (h.getD 0 0).toNat := ⟨_, rfl⟩
  obtain ⟨x1, hx1⟩ : ∃ x, x = (h.getD 31 0).toNat := ⟨_, rfl⟩
  have h0 : x0 < 256 := hx0 ▸ UInt8.toNat_lt _
  have h1 : x1 < 256 := hx1 ▸ UInt8.toNat_lt _
  have ht : (h.set 0 (UInt8.ofNat (x0 / 8 * 8))).set 31 (UInt8.ofNat (x1 % 64 + 64)) = Sg.turned h := by unfold Sg.turned; rw [hx0, hx1]
  have hs : Fp.num (((Sg.turned h).take 32).take 64) % Sc.L = Sg.sec xs := by
    rw [List.take_take, show min 64 32 = 32 from rfl, hh]; rfl
  have hp : (Sg.turned h).drop 32 = Sg.pre xs := by rw [Sg.turned_drop, hh]; rfl
  have htl : (Sg.turned h).length = 64 := by rw [Sg.turned_length, hl]
  refine vc_enterct (s := 4) 25 Try.func106 rfl rfl rfl Try.underlying76 rfl (by kernel_rfl) rfl ?_
  intro Q hret
  refine wc_seq ?_; intro K1 hK1
  refine wc_region ?_
  refine wl_ef (ef_alloc (Z := ws z4) (by kernel_rfl)) rfl ?_
  rintro _ w1 ⟨g2, rfl, B2, hg2, ex⟩
  replace E := E.ext ex
  have hz := ex.size; have hl2 := B2.lt
  refine wl_y (y_assign rfl) rfl ?_
  refine wl_nil ?_
  refine wq_then_norm (hK1 ?_)
  refine wc_seq ?_; intro K2 hK2
  refine wc_region ?_
  refine wl_y (y_move rfl) rfl ?_
  refine wl_ef (ef_lit (z := .slice none 0 0) Try.underlying57 (by kernel_rfl) rfl rfl rfl rfl rfl) rfl ?_
  rintro _ w2 ⟨g3, rfl, B3, hg3, ex⟩
  replace E := E.ext ex
  replace B2 := B2.ext ex
  have S3 := bss_one B3 (HA.ext E); have hz3 := E.size; have hl23 := B2.lt
  refine wl_call Try.func81 rfl rfl rfl (lof_any _ 1 1 _ _ S3 (by omega) (by simp; omega)) rfl ?_
  rintro e w3 ⟨g4, rfl, hg4, B4, ex⟩
  refine ⟨_, rfl, ?_⟩
  replace E := E.ext ex
  replace B2 := B2.ext ex
  rw [show [xs].flatten = xs by simp, ← hh] at B4
  refine wl_y (y_assign rfl) rfl ?_
  refine wl_nil ?_
  refine wq_then_norm (hK2 ?_)
  refine wc_seq ?_; intro K3 hK3
  refine wc_region ?_
  refine wl_y (y_move rfl) rfl ?_
  refine wl_y (y_ixs1 rfl rfl Try.underlying22 (by kernel_rfl) (j := 0) rfl (by omega)) rfl ?_
  refine wl_y (y_load1 rfl Try.underlying5 rfl (B4.get (bys_get (i := 0) (by omega)))) rfl ?_
  refine wl_y (y_andNot rfl rfl (show bits .andNot .u8 _ 7 = ((x0 / 8 * 8 : Nat) : Int) by rw [← hx0]; exact Sg.andNot7' ⟨x0, h0⟩)) rfl ?_
  refine wl_y (y_ixs1 rfl rfl Try.underlying22 (by kernel_rfl) (j := 0) rfl (by omega)) rfl ?_
  rw [← u8_val (n := x0 / 8 * 8) (by omega)]
  refine wl_ef (ef_storeB rfl rfl rfl (by kernel_rfl) B4 (by rw [bys_size]; omega)) rfl ?_
  rintro _ w4 ⟨rfl, D4, cg⟩
  rw [bys_set] at D4; replace E := E.chg cg (by omega); replace B2 := B2.chg cg (by omega)
  refine wl_nil ?_
  refine wq_then_norm (hK3 ?_)
  refine wc_seq ?_; intro K4 hK4
  refine wc_region ?_
  refine wl_y (y_move rfl) rfl ?_
  refine wl_y (y_move rfl) rfl ?_
  refine wl_y (y_ixs1 rfl rfl Try.underlying22 (by kernel_rfl) (j := 31) rfl (by omega)) rfl ?_
  refine wl_y (y_load1 rfl Try.underlying5 rfl (D4.get (bys_get (i := 31) (by rw [List.length_set]; omega)))) rfl ?_
  refine wl_y (y_and rfl rfl (show bits .and .u8 _ 63 = ((x1 % 64 : Nat) : Int) by rw [List.getD_eq_getElem?_getD, List.getElem?_set_ne (by omega), ← List.getD_eq_getElem?_getD, ← hx1]; exact Sg.and63' ⟨x1, h1⟩)) rfl ?_
  refine wl_y (y_or rfl rfl (Sg.or64' ⟨x1 % 64, by omega⟩)) rfl ?_
  refine wl_y (y_ixs1 rfl rfl Try.underlying22 (by kernel_rfl) (j := 31) rfl (by omega)) rfl ?_
  rw [← u8_val (n := x1 % 64 + 64) (by omega)]
  refine wl_ef (ef_storeB rfl rfl rfl (by kernel_rfl) D4 (by rw [bys_size, List.length_set]; omega)) rfl ?_
  rintro _ w5 ⟨rfl, D5, cg⟩
  rw [bys_set, ht] at D5; replace E := E.chg cg (by omega); replace B2 := B2.chg cg (by omega); have hw4 : w.heap.size ≤ g4 := (by omega); have h24 : g2 ≠ g4 := (by omega); have H5 := bs_blk' D5 htl
  refine wl_nil ?_
  refine wq_then_norm (hK4 ?_)
  refine wc_seq ?_; intro K5 hK5
  refine wc_draw (by kernel_rfl) 7 rfl ?_; intro wd4 ex hd4
  replace E := E.ext ex
  replace B2 := B2.ext ex
  replace H5 := H5.ext ex
  refine wm_z 0 rfl (by kernel_rfl) (fun _ => y_move rfl) rfl ?_
  refine wm_z 1 rfl (by kernel_rfl) (fun _ => y_cuth (s := 1) rfl rfl Try.underlying22 (by kernel_rfl) (j := 32) rfl (by omega)) rfl ?_
  refine wm_z 3 rfl (by kernel_rfl) (fun _ => y_move rfl) rfl ?_
  refine wm_z 4 rfl (by kernel_rfl) (fun _ => y_cutl (s := 1) rfl rfl Try.underlying22 (by kernel_rfl) (j := 32) rfl (by omega)) rfl ?_
  refine wm_one 2 (by kernel_rfl) ?_; refine om_call rfl Try.func40 rfl rfl rfl (sof_any _ 32 64 ((Sg.turned h).take 32) _ (H5.take (by omega)) (by omega)) rfl ?_
  rintro e w6 ⟨rfl, ex⟩
  refine ⟨_, rfl, .inr ex, ?_⟩
  replace E := E.ext ex
  replace B2 := B2.ext ex
  replace H5 := H5.ext ex
  rw [hs]
  refine wm_one 5 (by kernel_rfl) ?_; refine om_ef rfl (ef_storeW rfl rfl (by rw [ws_size]; kernel_rfl) B2 (by rw [ws_size, ws_size]) (ws_one _)) rfl ?_
  rintro _ w7 ⟨rfl, D2, cg⟩
  refine ⟨.inl rfl, ?_⟩
  have E4 := E.chg cg hg2; have H7 := H5.chg cg fun b off e => by { injection e with e; injection e with e _; omega }
  refine wm_y 6 rfl (by kernel_rfl) (y_assign rfl) rfl ?_
  refine wm_done (by kernel_rfl) ?_
  refine wq_nop ?_
  refine wq_then_norm (hK5 ?_)
  refine wc_ret ?_
  refine hret rfl rfl D2 (ws_size _) ?_
  exact ⟨g4, rfl, by have := H7.cut (k := 32) (cap := 64) (by omega) (by omega); rw [hp] at this; exact this, hw4, E4⟩
theorem Secret_any (A : Option Addr) (n c : Nat) (xs : List UInt8) (w : World) (HA : Bs w A n xs) (hn : n ≤ 800000) :
    Calls Try.prog 46 #[.slice A n c] w fun e w' => e = .returned (.agg (ws (Sc.wd (if xs.length = 32 then Sg.sec xs else 0)))) ∧ Ext w w' := by
  have E := Ext.refl w
  have hl := HA.1
  have hz0 : ws z4 = ws (Sc.wd 0) := ws_congr fun j _ => by unfold z4 Sc.wd; simp
  refine vc_enterc1 (s := 4) 15 Try.func46 rfl rfl rfl Try.underlying76 rfl (by kernel_rfl) rfl ?_
  intro Q hret
  refine wc_seq ?_; intro K1 hK1
  refine wc_region ?_
  refine wl_ef (ef_alloc (Z := ws z4) (by kernel_rfl)) rfl ?_
  rintro _ w1 ⟨g2, rfl, B2, hg2, ex⟩
  replace E := E.ext ex
  skip
  refine wl_nil ?_
  refine wq_then_norm (hK1 ?_)
  refine wc_seq ?_; intro K2 hK2
  refine wc_seq ?_; intro K3 hK3
  refine wc_region ?_
  refine wl_y (y_move rfl) rfl ?_
  refine wl_y (y_len_slice rfl Try.underlying22) rfl ?_
  refine wl_y (y_neq rfl rfl) rfl ?_
  refine wl_nil ?_
  refine wq_then_norm (hK3 ?_)
  refine wc_dec rfl (fun hc1 => ?_) (fun hc1 => ?_)
  · skip
    refine wc_seq ?_; intro K4 hK4
    refine wc_region ?_
    refine wl_y (y_build rfl (cells := ws z4) (by kernel_rfl)) rfl ?_
    refine wl_ef (ef_storeW rfl rfl (by rw [ws_size]; kernel_rfl) B2 (by simp only [ws_size]) (ws_one _)) rfl ?_
    rintro _ w3 ⟨rfl, D2, cg⟩
    replace E := E.chg cg hg2; rw [hz0] at D2
    refine wl_nil ?_
    refine wq_then_norm (hK4 ?_)
    refine wc_ret ?_
    refine wq_then_ret ?_
    refine hret rfl D2 (ws_size _) ?_
    exact ⟨by rw [if_neg (show ¬ xs.length = 32 by omega)], E⟩
  · skip
    refine wc_skip ?_
    refine wq_then_norm (hK2 ?_)
    refine wc_seq ?_; intro K5 hK5
    refine wc_region ?_
    refine wl_y (y_move rfl) rfl ?_
    refine wl_call Try.func106 rfl rfl rfl (halves_any A n c xs _ (HA.ext E) hn) rfl ?_
    rintro e w4 ⟨g4, rfl, H4, hg4, ex⟩
    refine ⟨_, rfl, ?_⟩
    replace E := E.ext ex
    replace B2 := B2.ext ex
    skip
    refine wl_y (y_move rfl) rfl ?_
    refine wl_y (y_extract rfl rfl) rfl ?_
    refine wl_y (y_extract rfl rfl) rfl ?_
    have hz5 := E.size; have hl5 := B2.lt
    refine wl_ef (ef_alloc (Z := ws z4) (by kernel_rfl)) rfl ?_
    rintro _ w5 ⟨g3, rfl, B3, hg3, ex⟩
    replace E := E.ext ex
    replace B2 := B2.ext ex
    skip
    refine wl_ef (ef_storeW rfl rfl (by rw [ws_size]; kernel_rfl) B3 (by rw [ws_size, ws_size]) (ws_one _)) rfl ?_
    rintro _ w6 ⟨rfl, D3, cg⟩
    replace E := E.chg cg (by omega); replace B2 := B2.chg cg (by omega)
    refine wl_y (y_assign rfl) rfl ?_
    refine wl_nil ?_
    refine wq_then_norm (hK5 ?_)
    refine wc_seq ?_; intro K6 hK6
    refine wc_region ?_
    refine wl_y ((y_loadw rfl Try.underlying76 rfl (by rw [ws_size]; kernel_rfl) D3)) rfl ?_
    refine wl_ef (ef_storeW rfl rfl (by rw [ws_size]; kernel_rfl) B2 (by rw [ws_size, ws_size]) (ws_one _)) rfl ?_
    rintro _ w7 ⟨rfl, D2, cg⟩
    replace E := E.chg cg (by omega)
    refine wl_nil ?_
    refine wq_then_norm (hK6 ?_)
    refine wc_ret ?_
    refine hret rfl D2 (ws_size _) ?_
    exact ⟨by rw [if_pos (show xs.length = 32 by omega)], E⟩
/-- A public key, or none and why. -/
def pubE (xs : List UInt8) : List UInt8 × Nat := if xs.length = 32 then (Sg.pub xs, 0) else ([], 1)
theorem Public_any (A : Option Addr) (n c : Nat) (xs : List UInt8) (w : World) (HA : Bs w A n xs) (hn : n ≤ 800000) :
    Calls Try.prog 44 #[.slice A n c] w fun e w' => ∃ A' k c', e = .returned (.tuple #[.slice A' k c', .int .u8 ((pubE xs).2 : Int)]) ∧ Bs w' A' k (pubE xs).1 ∧ k ≤ 32 ∧ k ≤ c' ∧ Ext w w' := by
  have E := Ext.refl w
  have hl := HA.1
  refine vc_enter2 12 Try.func44 rfl rfl rfl rfl ?_
  intro Q hret
  refine wc_seq ?_; intro K1 hK1
  refine wc_region ?_
  refine wl_y (y_assign rfl) rfl ?_
  refine wl_y (y_assign rfl) rfl ?_
  refine wl_nil ?_
  refine wq_then_norm (hK1 ?_)
  refine wc_seq ?_; intro K2 hK2
  refine wc_seq ?_; intro K3 hK3
  refine wc_region ?_
  refine wl_y (y_move rfl) rfl ?_
  refine wl_y (y_len_slice rfl Try.underlying22) rfl ?_
  refine wl_y (y_neq rfl rfl) rfl ?_
  refine wl_nil ?_
  refine wq_then_norm (hK3 ?_)
  refine wc_dec rfl (fun hc1 => ?_) (fun hc1 => ?_)
  · skip
    refine wc_seq ?_; intro K4 hK4
    refine wc_region ?_
    refine wl_y (y_assign rfl) rfl ?_
    refine wl_y (y_assign rfl) rfl ?_
    refine wl_nil ?_
    refine wq_then_norm (hK4 ?_)
    refine wc_ret ?_
    refine wq_then_ret ?_
    refine hret rfl rfl ?_
    exact ⟨none, 0, 0, by unfold pubE; rw [if_neg (show ¬ xs.length = 32 by omega)]; rfl, by unfold pubE; rw [if_neg (show ¬ xs.length = 32 by omega)]; exact Bs.nil _ _, by omega, by omega, E⟩
  · skip
    refine wc_skip ?_
    refine wq_then_norm (hK2 ?_)
    refine wc_seq ?_; intro K5 hK5
    refine wc_region ?_
    refine wl_call Try.func38 rfl rfl rfl (pbase_any _) rfl ?_
    rintro e w1 ⟨c1, rfl, P1, ex⟩
    refine ⟨_, rfl, ?_⟩
    replace E := E.ext ex
    skip
    refine wl_y (y_move rfl) rfl ?_
    refine wl_call Try.func46 rfl rfl rfl (Secret_any A n c xs _ (HA.ext E) hn) rfl ?_
    rintro e w2 ⟨rfl, ex⟩
    refine ⟨_, rfl, ?_⟩
    replace E := E.ext ex
    rw [if_pos (show xs.length = 32 by omega)]
    refine wl_call Try.func39 rfl rfl rfl (Pmul_any P1.pp Ed.on_B (Sg.sec xs) (Sg.sec_lt xs) _) rfl ?_
    rintro e w3 ⟨c3, rfl, P3, ex⟩
    refine ⟨_, rfl, ?_⟩
    replace E := E.ext ex
    skip
    refine wl_call Try.func51 rfl rfl rfl (Pbytes_any P3.pp _) rfl ?_
    rintro e w4 ⟨g4, rfl, hg4, B4, ex⟩
    refine ⟨_, rfl, ?_⟩
    replace E := E.ext ex
    skip
    refine wl_y (y_assign rfl) rfl ?_
    refine wl_y (y_assign rfl) rfl ?_
    refine wl_nil ?_
    refine wq_then_norm (hK5 ?_)
    refine wc_ret ?_
    refine hret rfl rfl ?_
    exact ⟨some ⟨g4, 0, none⟩, 32, 32, by unfold pubE; rw [if_pos (show xs.length = 32 by omega)]; rfl, by unfold pubE; rw [if_pos (show xs.length = 32 by omega)]; exact bs_blk' B4 (Ed.enc_length _), by omega, by omega, E⟩
end
section
open Go.RowKit
attribute [local irreducible] Y Ef WL WC WK WQ WM OpM WN WF OpN
theorem dec_onS (xs : List UInt8) : Ed.On ((Ed.dec xs).getD Ed.O) := dec_onD xs
namespace Sg
/-- The rule's two sides. -/
def left (s : List UInt8) : Fp.F × Fp.F := Ed.mul (Fp.num (s.drop 32)) Ed.B
def right (p t s : List UInt8) : Fp.F × Fp.F := Ed.add ((Ed.dec (s.take 32)).getD Ed.O) (Ed.mul (dig (s.take 32 ++ p ++ t)) ((Ed.dec p).getD Ed.O))
/-- Whether a signature's parts are whole. -/
def whole (p s : List UInt8) : Bool := (Ed.dec (s.take 32)).isSome && decide (Fp.num (s.drop 32) < Sc.L) && (Ed.dec p).isSome
def holds (p t s : List UInt8) : Bool := decide (s.length = 64) && whole p s && decide (left s = right p t s)
end Sg
set_option maxHeartbeats 1000000 in
theorem Holds_any (A : Option Addr) (n c : Nat) (ps : List UInt8) (B : Option Addr) (m d : Nat) (ts : List UInt8) (C : Option Addr) (k f : Nat) (ss : List UInt8) (w : World) (HA : Bs w A n ps) (HB : Bs w B m ts) (HC : Bs w C k ss) (hn : n ≤ 100000) (hm : m ≤ 100000) (hk : k ≤ 100000) (hf : k ≤ f) :
    Calls Try.prog 32 #[.slice A n c, .slice B m d, .slice C k f] w fun e w' => e = .returned (.bool (Sg.holds ps ts ss)) ∧ Ext w w' := by
  have E := Ext.refl w
  have hlA := HA.1; have hlB := HB.1; have hlC := HC.1
  refine vc_enter1 60 Try.func32 rfl rfl rfl rfl ?_
  intro Q hret
  refine wc_seq ?_; intro K1 hK1
  refine wc_region ?_
  refine wl_y (y_assign rfl) rfl ?_
  refine wl_nil ?_
  refine wq_then_norm (hK1 ?_)
  refine wc_seq ?_; intro K2 hK2
  refine wc_seq ?_; intro K3 hK3
  refine wc_region ?_
  refine wl_y (y_move rfl) rfl ?_
  refine wl_y (y_len_slice rfl Try.underlying22) rfl ?_
  refine wl_y (y_neq rfl rfl) rfl ?_
  refine wl_nil ?_
  refine wq_then_norm (hK3 ?_)
  refine wc_dec rfl (fun hc1 => ?_) (fun hc1 => ?_)
  · skip
    refine wc_seq ?_; intro K4 hK4
    refine wc_region ?_
    refine wl_y (y_assign rfl) rfl ?_
    refine wl_nil ?_
    refine wq_then_norm (hK4 ?_)
    refine wc_ret ?_
    refine wq_then_ret ?_
    refine hret rfl ?_
    exact ⟨by unfold Sg.holds; rw [decide_eq_false (show ¬ ss.length = 64 by omega)]; rfl, E⟩
  · skip
    refine wc_skip ?_
    refine wq_then_norm (hK2 ?_)
    refine wc_seq ?_; intro K5 hK5
    have h64 : ss.length = 64 := by omega
    have hk64 : k = 64 := by omega
    subst hk64
    have HL := HC.take (k := 32) (by omega)
    have HH := HC.cutA (c := f) (j := 32) (by omega) (by omega)
    have hdl : (ss.drop 32).length = 32 := by rw [List.length_drop]; omega
    refine wc_region ?_
    refine wl_y (y_move rfl) rfl ?_
    refine wl_y (y_cuth (s := 1) rfl rfl Try.underlying22 (by kernel_rfl) (j := 32) rfl (by omega)) rfl ?_
    refine wl_call Try.func33 rfl rfl rfl (Pof_any C 32 f (ss.take 32) _ (HL.ext E)) rfl ?_
    rintro e w1 ⟨c7, rfl, P7, ex⟩
    refine ⟨_, rfl, ?_⟩
    replace E := E.ext ex
    have o7 := dec_onS (ss.take 32)
    refine wl_y (y_move rfl) rfl ?_
    refine wl_y (y_extract rfl rfl) rfl ?_
    refine wl_y (y_extract rfl rfl) rfl ?_
    have hz3 := E.size
    refine wl_ef (ef_alloc (Z := pc zf zf zf zf false) (by kernel_rfl)) rfl ?_
    rintro _ w2 ⟨g7, rfl, B7, hg7, ex⟩
    replace E := E.ext ex
    skip
    refine wl_ef (ef_storeW rfl rfl (by rw [P7.size]; kernel_rfl) B7 (by rw [pc_size, P7.size]) P7.one) rfl ?_
    rintro _ w3 ⟨rfl, D7, cg⟩
    replace E := E.chg cg (by omega); replace B7 := D7
    refine wl_y (y_assign rfl) rfl ?_
    refine wl_nil ?_
    refine wq_then_norm (hK5 ?_)
    refine wc_seq ?_; intro K6 hK6
    refine wc_region ?_
    refine wl_y (y_move rfl) rfl ?_
    refine wl_y (y_cutl (s := 1) rfl rfl Try.underlying22 (by kernel_rfl) (j := 32) rfl (by omega)) rfl ?_
    refine wl_call Try.func80 rfl rfl rfl (Sexact_any (cutA C f 32 1) (64 - 32) (f - 32) (ss.drop 32) _ (HH.ext E) (by omega)) rfl ?_
    rintro e w4 ⟨v, rfl, hv, hvL, ex⟩
    refine ⟨_, rfl, ?_⟩
    replace E := E.ext ex
    replace B7 := B7.ext ex
    skip
    refine wl_y (y_move rfl) rfl ?_
    refine wl_y (y_extract rfl rfl) rfl ?_
    refine wl_y (y_extract rfl rfl) rfl ?_
    have hz4 := E.size; have hl47 := B7.lt
    refine wl_ef (ef_alloc (Z := ws z4) (by kernel_rfl)) rfl ?_
    rintro _ w5 ⟨g9, rfl, B9, hg9, ex⟩
    replace E := E.ext ex
    replace B7 := B7.ext ex
    skip
    refine wl_ef (ef_storeW rfl rfl (by rw [ws_size]; kernel_rfl) B9 (by rw [ws_size, ws_size]) (ws_one _)) rfl ?_
    rintro _ w6 ⟨rfl, D9, cg⟩
    replace E := E.chg cg (by omega); replace B7 := B7.chg cg (by omega); replace B9 := D9
    refine wl_y (y_assign rfl) rfl ?_
    refine wl_nil ?_
    refine wq_then_norm (hK6 ?_)
    refine wc_seq ?_; intro K7 hK7
    refine wc_region ?_
    refine wl_y (y_move rfl) rfl ?_
    refine wl_call Try.func33 rfl rfl rfl (Pof_any A n c ps _ (HA.ext E)) rfl ?_
    rintro e w7 ⟨c11, rfl, P11, ex⟩
    refine ⟨_, rfl, ?_⟩
    replace E := E.ext ex
    replace B7 := B7.ext ex
    replace B9 := B9.ext ex
    have o11 := dec_onS ps
    refine wl_y (y_move rfl) rfl ?_
    refine wl_y (y_extract rfl rfl) rfl ?_
    refine wl_y (y_extract rfl rfl) rfl ?_
    have hz5 := E.size; have hl57 := B7.lt; have hl59 := B9.lt
    refine wl_ef (ef_alloc (Z := pc zf zf zf zf false) (by kernel_rfl)) rfl ?_
    rintro _ w8 ⟨g11, rfl, B11, hg11, ex⟩
    replace E := E.ext ex
    replace B7 := B7.ext ex
    replace B9 := B9.ext ex
    skip
    refine wl_ef (ef_storeW rfl rfl (by rw [P11.size]; kernel_rfl) B11 (by rw [pc_size, P11.size]) P11.one) rfl ?_
    rintro _ w9 ⟨rfl, D11, cg⟩
    replace E := E.chg cg (by omega); replace B7 := B7.chg cg (by omega); replace B9 := B9.chg cg (by omega); replace B11 := D11
    refine wl_y (y_assign rfl) rfl ?_
    refine wl_nil ?_
    refine wq_then_norm (hK7 ?_)
    refine wc_seq ?_; intro K8 hK8
    refine wc_seq ?_; intro K9 hK9
    refine wc_region ?_
    refine wl_y (y_move rfl) rfl ?_
    refine wl_y (y_not rfl) rfl ?_
    refine wl_yaskb (y_move rfl) rfl (fun h1 => ?_) (fun h1 => ?_)
    · skip
      refine wl_gno 36 rfl rfl rfl rfl ?_
      refine wl_gno 36 rfl rfl rfl rfl ?_
      refine wl_y (y_pickt rfl rfl) rfl ?_
      refine wl_y (y_move rfl) rfl ?_
      refine wl_gno 40 rfl rfl rfl rfl ?_
      refine wl_gno 40 rfl rfl rfl rfl ?_
      refine wl_y (y_pickt rfl rfl) rfl ?_
      refine wl_nil ?_
      refine wq_then_norm (hK9 ?_)
      refine wc_true rfl rfl ?_
      refine wc_seq ?_; intro K10 hK10
      refine wc_region ?_
      refine wl_y (y_assign rfl) rfl ?_
      refine wl_nil ?_
      refine wq_then_norm (hK10 ?_)
      refine wc_ret ?_
      refine wq_then_ret ?_
      refine hret rfl ?_
      exact ⟨by unfold Sg.holds Sg.whole; rw [show (Ed.dec (ss.take 32)).isSome = false by simpa using h1]; simp, E⟩
    · skip
      refine wl_gy 36 rfl rfl (y_move rfl) rfl ?_
      refine wl_gy 36 rfl rfl (y_not rfl) rfl ?_
      refine wl_y (y_pickf rfl rfl) rfl ?_
      refine wl_yaskb (y_move rfl) rfl (fun h2 => ?_) (fun h2 => ?_)
      · skip
        refine wl_gno 40 rfl rfl rfl rfl ?_
        refine wl_gno 40 rfl rfl rfl rfl ?_
        refine wl_y (y_pickt rfl rfl) rfl ?_
        refine wl_nil ?_
        refine wq_then_norm (hK9 ?_)
        refine wc_true rfl rfl ?_
        refine wc_seq ?_; intro K11 hK11
        refine wc_region ?_
        refine wl_y (y_assign rfl) rfl ?_
        refine wl_nil ?_
        refine wq_then_norm (hK11 ?_)
        refine wc_ret ?_
        refine wq_then_ret ?_
        refine hret rfl ?_
        exact ⟨by unfold Sg.holds Sg.whole; rw [decide_eq_false (show ¬ Fp.num (ss.drop 32) < Sc.L by simpa [hdl] using h2)]; simp, E⟩
      · skip
        refine wl_gy 40 rfl rfl (y_move rfl) rfl ?_
        refine wl_gy 40 rfl rfl (y_not rfl) rfl ?_
        refine wl_y (y_pickf rfl rfl) rfl ?_
        refine wl_nil ?_
        refine wq_then_norm (hK9 ?_)
        refine wc_cond rfl (fun hc2 => ?_) (fun hc2 => ?_)
        · skip
          refine wc_seq ?_; intro K12 hK12
          refine wc_region ?_
          refine wl_y (y_assign rfl) rfl ?_
          refine wl_nil ?_
          refine wq_then_norm (hK12 ?_)
          refine wc_ret ?_
          refine wq_then_ret ?_
          refine hret rfl ?_
          exact ⟨by unfold Sg.holds Sg.whole; rw [show (Ed.dec ps).isSome = false by simpa using hc2]; simp, E⟩
        · skip
          refine wc_skip ?_
          refine wq_then_norm (hK8 ?_)
          refine wc_seq ?_; intro K13 hK13
          have w1' : (Ed.dec (ss.take 32)).isSome = true := by simpa using h1
          have w2' : Fp.num (ss.drop 32) < Sc.L := by simpa [hdl] using h2
          have w3' : (Ed.dec ps).isSome = true := by simpa using hc2
          have hv' := hv ⟨hdl, w2'⟩
          subst hv'
          refine wc_region ?_
          refine wl_y (y_move rfl) rfl ?_
          refine wl_y (y_cuth (s := 1) rfl rfl Try.underlying22 (by kernel_rfl) (j := 32) rfl (by omega)) rfl ?_
          refine wl_y (y_move rfl) rfl ?_
          refine wl_y (y_move rfl) rfl ?_
          refine wl_ef (ef_lit (z := .slice none 0 0) Try.underlying57 (by kernel_rfl) rfl rfl rfl rfl rfl) rfl ?_
          rintro _ w10 ⟨g10, rfl, B10, hg10, ex⟩
          replace E := E.ext ex
          replace B7 := B7.ext ex
          replace B9 := B9.ext ex
          replace B11 := B11.ext ex
          have S10 := bss_three B10 (HL.ext E) (HA.ext E) (HB.ext E)
          refine wl_call Try.func81 rfl rfl rfl (lof_any _ 3 3 _ _ S10 (by omega) (by simp; omega)) rfl ?_
          rintro e w11 ⟨g12, rfl, hg12, B12, ex⟩
          refine ⟨_, rfl, ?_⟩
          replace E := E.ext ex
          replace B7 := B7.ext ex
          replace B9 := B9.ext ex
          replace B11 := B11.ext ex
          rw [show [ss.take 32, ps, ts].flatten = ss.take 32 ++ ps ++ ts by simp] at B12
          refine wl_call Try.func40 rfl rfl rfl (sof_any _ 64 64 _ _ (bs_blk' B12 (Lng.sum_length _)) (by omega)) rfl ?_
          rintro e w12 ⟨rfl, ex⟩
          refine ⟨_, rfl, ?_⟩
          replace E := E.ext ex
          replace B7 := B7.ext ex
          replace B9 := B9.ext ex
          replace B11 := B11.ext ex
          rw [Sg.dig_take]
          have hz8 := E.size; have hl87 := B7.lt; have hl89 := B9.lt; have hl811 := B11.lt
          refine wl_ef (ef_alloc (Z := ws z4) (by kernel_rfl)) rfl ?_
          rintro _ w13 ⟨g13, rfl, B13, hg13, ex⟩
          replace E := E.ext ex
          replace B7 := B7.ext ex
          replace B9 := B9.ext ex
          replace B11 := B11.ext ex
          skip
          refine wl_ef (ef_storeW rfl rfl (by rw [ws_size]; kernel_rfl) B13 (by rw [ws_size, ws_size]) (ws_one _)) rfl ?_
          rintro _ w14 ⟨rfl, D13, cg⟩
          replace E := E.chg cg (by omega); replace B7 := B7.chg cg (by omega); replace B9 := B9.chg cg (by omega); replace B11 := B11.chg cg (by omega); replace B13 := D13
          refine wl_nil ?_
          refine wq_then_norm (hK13 ?_)
          refine wc_seq ?_; intro K14 hK14
          refine wc_draw (by kernel_rfl) 10 rfl ?_; intro wd9 ex hd9
          replace E := E.ext ex
          replace B7 := B7.ext ex
          replace B9 := B9.ext ex
          replace B11 := B11.ext ex
          replace B13 := B13.ext ex
          refine wm_y 1 rfl (by kernel_rfl) ((y_loadw rfl Try.underlying76 rfl (by rw [ws_size]; kernel_rfl) B9)) rfl ?_
          refine wm_y 3 rfl (by kernel_rfl) (y_qq rfl P7 B7) rfl ?_
          refine wm_y 4 rfl (by kernel_rfl) (y_qq rfl P11 B11) rfl ?_
          refine wm_y 5 rfl (by kernel_rfl) ((y_loadw rfl Try.underlying76 rfl (by rw [ws_size]; kernel_rfl) B13)) rfl ?_
          refine wm_one 0 (by kernel_rfl) ?_; refine om_call rfl Try.func38 rfl rfl rfl (pbase_any _) rfl ?_
          rintro e wa1 ⟨ca1, rfl, PB, ex⟩
          refine ⟨_, rfl, .inr ex, ?_⟩
          replace E := E.ext ex
          replace B7 := B7.ext ex
          replace B9 := B9.ext ex
          replace B11 := B11.ext ex
          replace B13 := B13.ext ex
          skip
          refine wm_one 2 (by kernel_rfl) ?_; refine om_call rfl Try.func39 rfl rfl rfl (Pmul_any PB.pp Ed.on_B (Fp.num (ss.drop 32)) w2' _) rfl ?_
          rintro e wa2 ⟨ca2, rfl, PL, ex⟩
          refine ⟨_, rfl, .inr ex, ?_⟩
          replace E := E.ext ex
          replace B7 := B7.ext ex
          replace B9 := B9.ext ex
          replace B11 := B11.ext ex
          replace B13 := B13.ext ex
          skip
          refine wm_one 6 (by kernel_rfl) ?_; refine om_call rfl Try.func39 rfl rfl rfl (Pmul_any P11 o11 (Sg.dig (ss.take 32 ++ ps ++ ts)) (Sg.dig_lt _) _) rfl ?_
          rintro e wa3 ⟨ca3, rfl, PM, ex⟩
          refine ⟨_, rfl, .inr ex, ?_⟩
          replace E := E.ext ex
          replace B7 := B7.ext ex
          replace B9 := B9.ext ex
          replace B11 := B11.ext ex
          replace B13 := B13.ext ex
          skip
          refine wm_one 7 (by kernel_rfl) ?_; refine om_call rfl Try.func41 rfl rfl rfl (Padd_any P7 PM.pp o7 (Ed.on_mul o11 _) _) rfl ?_
          rintro e wa4 ⟨ca4, rfl, PR, ex⟩
          refine ⟨_, rfl, .inr ex, ?_⟩
          replace E := E.ext ex
          replace B7 := B7.ext ex
          replace B9 := B9.ext ex
          replace B11 := B11.ext ex
          replace B13 := B13.ext ex
          skip
          refine wm_one 8 (by kernel_rfl) ?_; refine om_call rfl Try.func43 rfl rfl rfl (Psame_any PL.pp PR.pp _) rfl ?_
          rintro e wa5 ⟨rfl, ex⟩
          refine ⟨_, rfl, .inr ex, ?_⟩
          replace E := E.ext ex
          replace B7 := B7.ext ex
          replace B9 := B9.ext ex
          replace B11 := B11.ext ex
          replace B13 := B13.ext ex
          skip
          refine wm_y 9 rfl (by kernel_rfl) (y_assign rfl) rfl ?_
          refine wm_done (by kernel_rfl) ?_
          refine wq_nop ?_
          refine wq_then_norm (hK14 ?_)
          refine wc_ret ?_
          refine hret rfl ?_
          exact ⟨by unfold Sg.holds Sg.whole; rw [decide_eq_true h64, w1', decide_eq_true w2', w3']; rfl, E⟩
end
section
namespace Sg
def z32 : List UInt8 := List.replicate 32 0
def n0 : Nat := 3140620980319341722849076354004524857726602937622481303882784251885505225391
def P0 : Fp.F × Fp.F := (Fp.of 9639205628789703341510410801487549615560488670885798085067615194958049462616, Fp.of 18930617471878267742194159801949745215346600387277955685031939302387136031291)
theorem sum_z : Lng.sum z32 = [80, 70, 173, 193, 219, 168, 56, 134, 123, 43, 187, 253, 208, 195, 66, 62, 88, 181, 121, 112, 181, 38, 122, 144, 245, 121, 96, 146, 74, 135, 241, 150, 10, 106, 133, 234, 166, 66, 218, 200, 53, 66, 75, 93, 124, 141, 99, 124, 0, 64, 140, 122, 115, 218, 103, 43, 127, 73, 133, 33, 66, 11, 109, 211] := by decide +kernel
theorem sec_z : sec z32 = n0 := by
  unfold sec raw
  rw [sum_z]
  decide +kernel
theorem mul0 : (Ed.qmul (Ed.qof Ed.B) n0 253).x = P0.1 * (Ed.qmul (Ed.qof Ed.B) n0 253).z ∧ (Ed.qmul (Ed.qof Ed.B) n0 253).y = P0.2 * (Ed.qmul (Ed.qof Ed.B) n0 253).z := by decide +kernel
theorem mul_z : Ed.mul n0 Ed.B = P0 := by
  have h := Ed.rep_mul (Ed.rep_of Ed.B) Ed.on_B n0 (by decide +kernel) 253 (Nat.le_refl _)
  rw [Nat.sub_self, Nat.pow_zero, Nat.div_one] at h
  refine ((Ed.rep_same h (Ed.rep_of P0)).1 ?_)
  obtain ⟨h1, h2⟩ := mul0
  show (Ed.qmul (Ed.qof Ed.B) n0 253).x * (1 : Fp.F) = P0.1 * (Ed.qmul (Ed.qof Ed.B) n0 253).z ∧ (Ed.qmul (Ed.qof Ed.B) n0 253).y * (1 : Fp.F) = P0.2 * (Ed.qmul (Ed.qof Ed.B) n0 253).z
  rw [← h1, ← h2]
  generalize Ed.qmul (Ed.qof Ed.B) n0 253 = q
  exact ⟨by grind, by grind⟩
theorem pub_z : (pub z32).getD 0 0 = 59 ∧ (pub z32).getD 1 0 = 106 ∧ (pub z32).getD 2 0 = 39 ∧ (pub z32).getD 3 0 = 188 := by
  unfold pub
  rw [sec_z, mul_z]
  decide +kernel
end Sg
end
section
open Go.RowKit
attribute [local irreducible] Y Ef WL WC WK WQ WM OpM WN WF OpN
set_option maxHeartbeats 1000000 in
theorem alive10_any (w : World) : Calls Try.prog 31 #[] w fun e w' => e = .returned (.bool true) ∧ Ext w w' := by
  have E := Ext.refl w
  obtain ⟨hb0, hb1, hb2, hb3⟩ := Sg.pub_z
  refine vc_enter1 46 Try.func31 rfl rfl rfl rfl ?_
  intro Q hret
  refine wc_seq ?_; intro K1 hK1
  refine wc_region ?_
  refine wl_y (y_assign rfl) rfl ?_
  refine wl_nil ?_
  refine wq_then_norm (hK1 ?_)
  refine wc_seq ?_; intro K2 hK2
  refine wc_region ?_
  refine wl_ef (ef_make (n := 32) (z := .int .u8 0) (bytes := 1) rfl rfl Try.underlying22 (by kernel_rfl) rfl rfl rfl rfl (by omega) (by omega)) rfl ?_
  rintro _ w1 ⟨g1, rfl, B1, hg1, ex⟩
  replace E := E.ext ex
  skip
  refine wl_call Try.func44 rfl rfl rfl (Public_any _ 32 32 Sg.z32 _ (bs_blk' (B1.congr (show _ = bys Sg.z32 from rfl)) rfl) (by omega)) rfl ?_
  rintro e w2 ⟨A1, k1, c1, rfl, H1, _, hkc, ex⟩
  refine ⟨_, rfl, ?_⟩
  replace E := E.ext ex
  rw [show pubE Sg.z32 = (Sg.pub Sg.z32, 0) from rfl] at H1; have hk1 : k1 = 32 := H1.1.symm.trans (Ed.enc_length _); subst hk1
  refine wl_y (y_move rfl) rfl ?_
  refine wl_y (y_extract rfl rfl) rfl ?_
  refine wl_y (y_extract rfl rfl) rfl ?_
  refine wl_y (y_assign rfl) rfl ?_
  refine wl_y (y_assign rfl) rfl ?_
  refine wl_nil ?_
  refine wq_then_norm (hK2 ?_)
  refine wc_seq ?_; intro K3 hK3
  refine wc_region ?_
  obtain ⟨b0, off0, rfl, _, hc0⟩ := H1.get (k := 0) (by omega)
  obtain ⟨x1, hx1, hc1⟩ := H1.byteAt (k := 1) (by omega)
  obtain ⟨x2, hx2, hc2⟩ := H1.byteAt (k := 2) (by omega)
  obtain ⟨x3, hx3, hc3⟩ := H1.byteAt (k := 3) (by omega)
  have hx1' := hx1.out; have hx2' := hx2.out; have hx3' := hx3.out
  rw [show (Sg.pub Sg.z32, 0).1 = Sg.pub Sg.z32 from rfl] at hc0 hx1' hx2' hx3'
  rw [hb0] at hc0
  rw [hb1] at hx1'
  rw [hb2] at hx2'
  rw [hb3] at hx3'
  rw [hx1'] at hc1
  rw [hx2'] at hc2
  rw [hx3'] at hc3
  refine wl_y (y_move rfl) rfl ?_
  refine wl_y (y_conv rfl Try.underlying33 Try.underlying3 (show IntKind.i64.wrap (((pubE Sg.z32).2 : Nat) : Int) = 0 from rfl)) rfl ?_
  refine wl_y (y_eql rfl rfl) rfl ?_
  refine wl_y (Y.as (y_move rfl) (congrArg Value.bool (decide_eq_true rfl))) rfl ?_
  refine wl_gy 11 rfl rfl (y_move rfl) rfl ?_
  refine wl_gy 11 rfl rfl (y_len_slice rfl Try.underlying22) rfl ?_
  refine wl_gy 11 rfl rfl (y_eql rfl rfl) rfl ?_
  refine wl_y (y_pickt rfl rfl) rfl ?_
  refine wl_y (Y.as (y_move rfl) (congrArg Value.bool (decide_eq_true rfl))) rfl ?_
  refine wl_gy 16 rfl rfl (y_move rfl) rfl ?_
  refine wl_gy 16 rfl rfl (y_ixs1 rfl rfl Try.underlying22 (by kernel_rfl) (j := 0) rfl (by omega)) rfl ?_
  refine wl_gy 16 rfl rfl (y_load1 rfl Try.underlying5 rfl hc0) rfl ?_
  refine wl_gy 16 rfl rfl (y_eql rfl rfl) rfl ?_
  refine wl_y (y_pickt rfl rfl) rfl ?_
  refine wl_y (Y.as (y_move rfl) (congrArg Value.bool (decide_eq_true rfl))) rfl ?_
  refine wl_gy 22 rfl rfl (y_move rfl) rfl ?_
  refine wl_gy 22 rfl rfl (y_ixs1 rfl rfl Try.underlying22 (by kernel_rfl) (j := 1) rfl (by omega)) rfl ?_
  refine wl_gy 22 rfl rfl (y_load1 rfl Try.underlying5 rfl hc1) rfl ?_
  refine wl_gy 22 rfl rfl (y_eql rfl rfl) rfl ?_
  refine wl_y (y_pickt rfl rfl) rfl ?_
  refine wl_y (Y.as (y_move rfl) (congrArg Value.bool (decide_eq_true rfl))) rfl ?_
  refine wl_gy 28 rfl rfl (y_move rfl) rfl ?_
  refine wl_gy 28 rfl rfl (y_ixs1 rfl rfl Try.underlying22 (by kernel_rfl) (j := 2) rfl (by omega)) rfl ?_
  refine wl_gy 28 rfl rfl (y_load1 rfl Try.underlying5 rfl hc2) rfl ?_
  refine wl_gy 28 rfl rfl (y_eql rfl rfl) rfl ?_
  refine wl_y (y_pickt rfl rfl) rfl ?_
  refine wl_y (Y.as (y_move rfl) (congrArg Value.bool (decide_eq_true rfl))) rfl ?_
  refine wl_gy 34 rfl rfl (y_move rfl) rfl ?_
  refine wl_gy 34 rfl rfl (y_ixs1 rfl rfl Try.underlying22 (by kernel_rfl) (j := 3) rfl (by omega)) rfl ?_
  refine wl_gy 34 rfl rfl (y_load1 rfl Try.underlying5 rfl hc3) rfl ?_
  refine wl_gy 34 rfl rfl (y_eql rfl rfl) rfl ?_
  refine wl_y (y_pickt rfl rfl) rfl ?_
  refine wl_y (Y.as (y_move rfl) (congrArg Value.bool (decide_eq_true rfl))) rfl ?_
  refine wl_gy 40 rfl rfl (y_move rfl) rfl ?_
  refine wl_gef 40 rfl rfl (ef_make (n := 63) (z := .int .u8 0) (bytes := 1) rfl rfl Try.underlying22 (by kernel_rfl) rfl rfl rfl rfl (by omega) (by omega)) rfl ?_
  rintro _ w3 ⟨g3, rfl, B3, hg3, ex⟩
  replace E := E.ext ex
  replace H1 := H1.ext ex
  skip
  refine wl_gcall 40 rfl rfl Try.func32 rfl rfl rfl (Holds_any _ 32 c1 (Sg.pub Sg.z32) none 0 0 [] _ 63 63 (List.replicate 63 0) _ H1 (Bs.nil _ _) (bs_blk' (B3.congr (show _ = bys (List.replicate 63 0) from rfl)) rfl) (by omega) (by omega) (by omega) (by omega)) rfl ?_
  rintro e w4 ⟨rfl, ex⟩
  refine ⟨_, rfl, ?_⟩
  replace E := E.ext ex
  replace H1 := H1.ext ex
  replace B3 := B3.ext ex
  rw [show Sg.holds (Sg.pub Sg.z32) [] (List.replicate 63 0) = false from rfl]
  refine wl_gy 40 rfl rfl (y_not rfl) rfl ?_
  refine wl_y (y_pickt rfl rfl) rfl ?_
  refine wl_y (y_assign rfl) rfl ?_
  refine wl_nil ?_
  refine wq_then_norm (hK3 ?_)
  refine wc_ret ?_
  refine hret rfl ?_
  exact ⟨rfl, E⟩
theorem rbytesC_any (A : Option Addr) (n c k v : Nat) (w : World) (HA : Bg w A n v) (hn : n ≤ 1000) (hk : k ≤ 1000) :
    Calls Try.prog 42 #[.slice A n c, .int .i64 (k : Int)] w fun e w' => ∃ A' c', e = .returned (.slice A' k c') ∧ Row w' w.heap.size 5 A' k c' ((Fp.le k v).map bv) ∧ Ext w w' := by
  have hln := HA.len
  refine vc_enter1 28 Try.func42 rfl rfl rfl rfl ?_
  intro Q hret
  refine wc_seq ?_; intro K1 hK1
  refine wc_region ?_
  refine wl_y (y_assign rfl) rfl ?_
  refine wl_nil ?_
  refine wq_then_norm (hK1 ?_)
  refine wc_seq ?_; intro K2 hK2
  refine wc_region ?_
  refine wl_y (y_assign rfl) rfl ?_
  refine wl_nil ?_
  refine wq_then_norm (hK2 ?_)
  refine wc_seq ?_; intro K3 hK3
  refine wc_seq ?_; intro K4 hK4
  refine wc_region ?_
  refine wl_y (y_assign rfl) rfl ?_
  refine wl_nil ?_
  refine wq_then_norm (hK4 ?_)
  refine wc_block ?_
  refine wc_loop (fun n' L wr => ∃ (i n5 c5 c8 : Nat) (A5 A8 : Option Addr), L = [(0, .slice A5 n5 c5), (1, .int .i64 (k : Int)), (5, .slice A8 i c8), (6, .int .i64 (i : Int))] ∧ n' = k - i ∧ (i ≤ k ∧ Ext w wr ∧ Bg wr A5 n5 (v / 256 ^ i) ∧ Row wr w.heap.size 5 A8 i c8 ((Fp.le i v).map bv))) _ _ ⟨0, n, c, 0, A, none, rfl, rfl, by omega, Ext.refl _, HA.congr (by rw [Nat.pow_zero, Nat.div_one]), Row.empty _ _ _⟩ ⟨rfl, (by first | rfl | exact congrArg some (int_val (by omega))), rfl, (by first | rfl | exact congrArg some (int_val (by omega))), trivial⟩ ?_
  rintro KL1 n' L wr ⟨i, n5, c5, c8, A5, A8, rfl, rfl, hi, E, H5, R⟩ hL1
  refine wc_seq ?_; intro K5 hK5
  refine wc_seq ?_; intro K6 hK6
  refine wc_region ?_
  refine wl_y (y_move rfl) rfl ?_
  refine wl_y (y_move rfl) rfl ?_
  refine wl_y (y_lss rfl rfl) rfl ?_
  refine wl_nil ?_
  refine wq_then_norm (hK6 ?_)
  refine wc_dec rfl (fun hc1 => ?_) (fun hc1 => ?_)
  · skip
    refine wc_skip ?_
    refine wq_then_norm (hK5 ?_)
    refine wc_seq ?_; intro K7 hK7
    refine wc_block ?_
    refine wc_seq ?_; intro K8 hK8
    have hl5 := H5.len
    have hle := Big.length_le (Nat.div_le_self v (256 ^ i))
    refine wc_region ?_
    refine wl_y (y_move rfl) rfl ?_
    refine wl_call Try.func88 rfl rfl rfl (num_any 256 _ (by omega)) rfl ?_
    rintro e w1 ⟨A1, n1, c1, rfl, H1, k1, ex⟩
    refine ⟨_, rfl, ?_⟩
    have E1 := E.ext ex; have H5a := H5.ext ex; have hl1 := H1.len; have h1l := Big.digs_length_le 256 1 (by omega); have R1 := R.ext ex
    refine wl_call Try.func103 rfl rfl rfl (div_any A5 A1 n5 c5 n1 c1 _ 256 _ H5a H1 (by omega) (by omega) (by omega)) rfl ?_
    rintro e w2 ⟨A2, n2, c2, A3, n3, c3, rfl, H2, H3, k2, k3, kf, ex⟩
    refine ⟨_, rfl, ?_⟩
    have E2 := E1.ext ex; have R2 := R1.ext ex; have hl3 := H3.len; have h3l := Big.digs_length_le (v / 256 ^ i % 256) 1 (by omega)
    refine wl_y (y_move rfl) rfl ?_
    refine wl_y (y_extract rfl rfl) rfl ?_
    refine wl_y (y_extract rfl rfl) rfl ?_
    refine wl_y (y_assign rfl) rfl ?_
    refine wl_y (y_assign rfl) rfl ?_
    refine wl_nil ?_
    refine wq_then_norm (hK8 ?_)
    refine wc_seq ?_; intro K9 hK9
    refine wc_region ?_
    refine wl_y (y_move rfl) rfl ?_
    refine wl_y (y_move rfl) rfl ?_
    refine wl_call Try.func104 rfl rfl rfl (low_any A3 n3 c3 _ _ H3 (by omega)) rfl ?_
    rintro e w3 ⟨rfl, ex⟩
    refine ⟨_, rfl, ?_⟩
    have E3 := E2.ext ex; have R3 := R2.ext ex; have H2a := H2.ext ex; rw [Nat.mod_eq_of_lt (show v / 256 ^ i % 256 < 18446744073709551616 by omega)]
    refine wl_y (y_conv rfl Try.underlying59 Try.underlying5 (show IntKind.u8.wrap ((v / 256 ^ i % 256 : Nat) : Int) = ((UInt8.ofNat (v / 256 ^ i % 256)).toNat : Int) by rw [IntKind.wrap_u8', UInt8.toNat_ofNat']; omega)) rfl ?_
    refine wl_ef (ef_lit (z := .int .u8 0) Try.underlying22 (by kernel_rfl) rfl rfl rfl rfl rfl) rfl ?_
    rintro _ w4 ⟨g4, rfl, B4, hg4, ex⟩
    have E4 := E3.ext ex; have R4 := R3.ext ex; have H2b := H2a.ext ex; have hs4 := E4.size
    refine wl_ef (ef_app rfl rfl eltB R4 (At.blk (vs := [UInt8.ofNat (v / 256 ^ i % 256)].map bv) (B4.congr (by rfl))) rfl (by intro u hu; exact bv_one u hu) (by omega) (by omega) hs4) rfl ?_
    rintro _ w5 ⟨A6, c6, rfl, R6, be, gr, hl⟩
    have E5 := E4.trans be; have R7 := R6.cat; rw [← Fp.le_succ] at R7; have H2c : Bg w5 A2 n2 (v / 256 ^ i / 256) := Ns.app H2b (fun b o b' o' h1 h2 e => by subst h1; subst h2; have := (Row.lt R1).2; have := kf _ _ rfl; omega) gr R1.none_s
    refine wl_y (y_assign rfl) rfl ?_
    refine wl_nil ?_
    refine wq_then_norm (hK9 ?_)
    refine wc_region ?_
    refine wl_y (y_move rfl) rfl ?_
    refine wl_y (y_assign rfl) rfl ?_
    refine wl_nil ?_
    refine wq_blk_norm ?_
    refine wq_then_norm (hK7 ?_)
    refine wc_region ?_
    refine wl_y (y_move rfl) rfl ?_
    refine wl_y (y_add rfl rfl (i64_ok (by omega) (by omega))) rfl ?_
    refine wl_y (y_assign rfl) rfl ?_
    refine wl_nil ?_
    refine wq_then_norm ?_
    refine hL1 _ _ ⟨i + 1, n2, c2, c6, A2, A6, rfl, rfl, by omega, E5, H2c.congr (by rw [Nat.div_div_eq_div_mul, Nat.pow_succ]), R7⟩ (by omega) ⟨rfl, (by first | rfl | exact congrArg some (int_val (by omega))), rfl, (by first | rfl | exact congrArg some (int_val (by omega))), trivial⟩
  · skip
    refine wc_exit ?_
    refine wq_then_exit ?_
    refine wq_then_exit ?_
    refine wq_blk_hit ?_
    refine wq_then_norm (hK3 ?_)
    refine wc_seq ?_; intro K10 hK10
    refine wc_region ?_
    refine wl_y (y_move rfl) rfl ?_
    refine wl_y (y_assign rfl) rfl ?_
    refine wl_nil ?_
    refine wq_then_norm (hK10 ?_)
    refine wc_ret ?_
    refine hret rfl ?_
    obtain rfl : i = k := by omega
    exact ⟨A8, c8, rfl, R, E⟩
theorem rdig_any (A : Option Addr) (n c : Nat) (xs : List UInt8) (B : Option Addr) (m d : Nat) (ys : List UInt8) (C : Option Addr) (k f : Nat) (zs : List UInt8) (w : World) (HA : Bs w A n xs) (HB : Bs w B m ys) (HC : Bs w C k zs) (hn : n ≤ 10000) (hm : m ≤ 10000) (hk : k ≤ 10000) :
    Calls Try.prog 37 #[.slice A n c, .slice B m d, .slice C k f] w fun e w' => ∃ A' n' c', e = .returned (.slice A' n' c') ∧ Bg w' A' n' (Sg.dig (xs ++ ys ++ zs)) ∧ n' ≤ 17 ∧ Ext w w' := by
  have hlA := HA.1; have hlB := HB.1; have hlC := HC.1
  refine vc_enter1 16 Try.func37 rfl rfl rfl rfl ?_
  intro Q hret
  refine wc_seq ?_; intro K1 hK1
  refine wc_region ?_
  refine wl_y (y_assign rfl) rfl ?_
  refine wl_nil ?_
  refine wq_then_norm (hK1 ?_)
  refine wc_seq ?_; intro K2 hK2
  refine wc_region ?_
  refine wl_ef (ef_lit (z := .int .u8 0) Try.underlying22 (by kernel_rfl) rfl rfl rfl rfl rfl) rfl ?_
  rintro _ w1 ⟨g1, rfl, B1, hg1, ex⟩
  have E := ex; have R1 : Row w1 w.heap.size 5 (some ⟨g1, 0, none⟩) 0 0 [] := Row.new B1 hg1 rfl (by unfold maxLen; omega)
  refine wl_y (y_move rfl) rfl ?_
  refine wl_ef (ef_app0 rfl rfl eltB R1 (HA.ext E).2 (by rw [List.length_map, HA.1]) (by intro u hu; exact bv_one u hu) (by omega) (by omega) E.size) rfl ?_
  rintro _ w2 ⟨A2, c2, rfl, R2, be, gr, hgl⟩
  replace E := E.trans be
  refine wl_y (y_move rfl) rfl ?_
  refine wl_ef (ef_app rfl rfl eltB R2 (HB.ext E).2 (by rw [List.length_map, HB.1]) (by intro u hu; exact bv_one u hu) (by omega) (by omega) E.size) rfl ?_
  rintro _ w3 ⟨A3, c3, rfl, R3, be, gr, hgl⟩
  replace E := E.trans be; replace R3 := R3.cat
  refine wl_y (y_move rfl) rfl ?_
  refine wl_ef (ef_app rfl rfl eltB R3 (HC.ext E).2 (by rw [List.length_map, HC.1]) (by intro u hu; exact bv_one u hu) (by omega) (by omega) E.size) rfl ?_
  rintro _ w4 ⟨A4, c4, rfl, R4, be, gr, hgl⟩
  replace E := E.trans be; replace R4 := R4.cat
  refine wl_call Try.func91 rfl rfl rfl (rlsumR_any A4 (n + m + k) c4 (xs ++ ys ++ zs) _ R4.bs (by omega)) rfl ?_
  rintro e w5 ⟨A5, c5, rfl, R5, ex⟩
  refine ⟨_, rfl, ?_⟩
  replace E := E.ext ex; have hc5 := R5.cap
  refine wl_call Try.func90 rfl rfl rfl (rof08_any A5 64 c5 _ _ R5.bs hc5 (by omega)) rfl ?_
  rintro e w6 ⟨A6, n6, c6, rfl, H6, h6, ex⟩
  refine ⟨_, rfl, ?_⟩
  replace E := E.ext ex; rw [Sg.dig_take] at H6
  refine wl_y (y_assign rfl) rfl ?_
  refine wl_nil ?_
  refine wq_then_norm (hK2 ?_)
  refine wc_ret ?_
  refine hret rfl ?_
  exact ⟨A6, n6, c6, rfl, H6, h6, E⟩
theorem le_num32 {n : Nat} (h : n < Sc.L) : Fp.num (Fp.le 32 n) = n := Fp.le_num 32 n (Nat.lt_trans h (by decide +kernel))
theorem le_take {n : Nat} (h : n < Sc.L) : Fp.num ((Fp.le 32 n).take 64) % Sc.L = n := by
  rw [List.take_of_length_le (by rw [Fp.le_length]; omega), le_num32 h, Nat.mod_eq_of_lt h]
end
end Go.Proofs.Ytopimmomkapdoaa
