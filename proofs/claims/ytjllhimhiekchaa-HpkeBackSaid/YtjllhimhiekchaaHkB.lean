/- hpke: pairs, shared secrets, Wrap, Unwrap, the lock, and boxes too short. No conditions: contracts of the program's functions. -/
import Derived.Test.YtjllhimhiekchaaHkA
import Derived.Test.YtjllhimhiekchaaDhI
import Derived.Test.YtjllhimhiekchaaSl
namespace Go.Proofs.Ytjllhimhiekchaa
open Go.RowKit
attribute [local irreducible] Y Ef WL WC WK WQ WM OpM WN WF OpN
open Hk
theorem concatH_any (A : Option Addr) (n c : Nat) (xss : List (List UInt8)) (w : World) (ha : Bss w A n xss) (hn : n ≤ 70368744177664) (hlen : xss.flatten.length ≤ 70368744177664) :
    Calls Try.prog 56 #[.slice A n c] w fun e w' => ∃ A' k c', e = .returned (.slice A' k c') ∧ Row w' w.heap.size 5 A' k c' (xss.flatten.map bv) ∧ Ext w w' :=
  (concat_any A n c xss w ha hn hlen).mono fun _ _ ⟨A', k, c', h1, h2, h3⟩ => ⟨A', k, c', h1, h2, h3⟩
namespace Hk
def KEM : ByteArray := ⟨#[75, 69, 77, 0, 32]⟩
def BOX : ByteArray := ⟨#[72, 80, 75, 69, 0, 32, 0, 1, 0, 1]⟩
def dkp : ByteArray := ⟨#[100, 107, 112, 95, 112, 114, 107]⟩
def skk : ByteArray := ⟨#[115, 107]⟩
def eae : ByteArray := ⟨#[101, 97, 101, 95, 112, 114, 107]⟩
def shs : ByteArray := ⟨#[115, 104, 97, 114, 101, 100, 95, 115, 101, 99, 114, 101, 116]⟩
def psk : ByteArray := ⟨#[112, 115, 107, 95, 105, 100, 95, 104, 97, 115, 104]⟩
def inf : ByteArray := ⟨#[105, 110, 102, 111, 95, 104, 97, 115, 104]⟩
def sec : ByteArray := ⟨#[115, 101, 99, 114, 101, 116]⟩
def keyL : ByteArray := ⟨#[107, 101, 121]⟩
def nonL : ByteArray := ⟨#[98, 97, 115, 101, 95, 110, 111, 110, 99, 101]⟩
def priv (xs : List UInt8) : List UInt8 := exp KEM (ext KEM [] dkp xs) skk [] 32
def pub (xs : List UInt8) : List UInt8 := (dhM (priv xs) (Fp.le 32 9)).1
def shd (d enc pb : List UInt8) : List UInt8 := exp KEM (ext KEM [] eae d) shs (enc ++ pb) 32
def unw (xs ys : List UInt8) : List UInt8 × Nat := if (dhS xs ys).2 ≠ 0 then ([], (dhS xs ys).2) else (shd (dhS xs ys).1 ys (dhM xs (Fp.le 32 9)).1, 0)
def ctx (is : List UInt8) : List UInt8 := 0 :: (ext BOX [] psk [] ++ ext BOX [] inf is)
def lkey (s is : List UInt8) : List UInt8 := exp BOX (ext BOX s sec []) keyL (ctx is) 16
def lnon (s is : List UInt8) : List UInt8 := exp BOX (ext BOX s sec []) nonL (ctx is) 12
end Hk
theorem exp_length (nm lb : ByteArray) (xs is : List UInt8) (k : Nat) : (Hk.exp nm xs lb is k).length = k := Kdf.expand_length _ _ _
theorem ext_length (nm lb : ByteArray) (xs ys : List UInt8) : (Hk.ext nm xs lb ys).length = 32 := Mac.tag_length _ _
theorem dhb_ok {xs : List UInt8} (hx : xs.length = 32) : (dhM xs (Fp.le 32 9)).1.length = 32 ∧ (dhM xs (Fp.le 32 9)).2 = 0 := by
  rw [dhM, if_neg (by omega), if_neg (by rw [Fp.le_length]; omega)]; exact ⟨Fp.le_length _ _, rfl⟩
theorem priv_length (xs : List UInt8) : (priv xs).length = 32 := exp_length _ _ _ _ _
theorem pub_length (xs : List UInt8) : (pub xs).length = 32 := (dhb_ok (priv_length xs)).1
theorem hpair_any (A : Option Addr) (n c : Nat) (xs : List UInt8) (w : World) (HA : Bs w A n xs) (hn : n ≤ 10000) :
    Calls Try.prog 10 #[.slice A n c] w fun e w' => ∃ A1 c1 A2 c2, e = .returned (.tuple #[.slice A1 32 c1, .slice A2 32 c2]) ∧ Bs w' A1 32 (priv xs) ∧ Bs w' A2 32 (pub xs) ∧ 32 ≤ c1 ∧ Ext w w' := by
  have E := Ext.refl w
  refine vc_enter2 14 Try.func10 rfl rfl rfl rfl ?_
  intro Q hret
  refine wc_seq ?_; intro K1 hK1
  refine wc_region ?_
  refine wl_y (y_assign rfl) rfl ?_
  refine wl_y (y_assign rfl) rfl ?_
  refine wl_nil ?_
  refine wq_then_norm (hK1 ?_)
  refine wc_seq ?_; intro K2 hK2
  refine wc_region ?_
  refine wl_y (y_move rfl) rfl ?_
  refine wl_call Try.func27 rfl rfl rfl (hextract_any KEM dkp none A 0 0 n c [] xs _ (Bs.nil _ _) (by omega) HA hn (by decide) (by decide)) rfl ?_
  rintro e w1 ⟨A1, c1, rfl, H1, ex⟩
  refine ⟨_, rfl, ?_⟩
  replace HA := HA.ext ex
  replace E := E.ext ex
  skip
  refine wl_call Try.func26 rfl rfl rfl (hexpand_any KEM skk A1 none 32 c1 0 0 32 _ [] _ H1 (by omega) (Bs.nil _ _) (by omega) (by decide) (by decide) (by omega)) rfl ?_
  rintro e w2 ⟨A2, c2, rfl, H2, hc2, ex⟩
  refine ⟨_, rfl, ?_⟩
  replace HA := HA.ext ex
  replace E := E.ext ex
  replace H1 := H1.ext ex
  skip
  refine wl_y (y_assign rfl) rfl ?_
  refine wl_nil ?_
  refine wq_then_norm (hK2 ?_)
  refine wc_seq ?_; intro K3 hK3
  refine wc_region ?_
  refine wl_y (y_move rfl) rfl ?_
  refine wl_call Try.func12 rfl rfl rfl (dhbase_any A2 32 c2 _ _ H2) rfl ?_
  rintro e w3 ⟨A3, k3, c3, rfl, H3, hf, ex⟩
  refine ⟨_, rfl, ?_⟩
  replace HA := HA.ext ex
  replace E := E.ext ex
  replace H1 := H1.ext ex
  replace H2 := H2.ext ex
  have hl : k3 = 32 := by rw [← H3.1]; exact (dhb_ok H2.1).1
  refine wl_y (y_move rfl) rfl ?_
  refine wl_y (y_extract rfl rfl) rfl ?_
  refine wl_y (y_extract rfl rfl) rfl ?_
  refine wl_y (y_assign rfl) rfl ?_
  refine wl_nil ?_
  refine wq_then_norm (hK3 ?_)
  refine wc_seq ?_; intro K4 hK4
  refine wc_region ?_
  refine wl_y (y_move rfl) rfl ?_
  refine wl_y (y_move rfl) rfl ?_
  refine wl_y (y_assign rfl) rfl ?_
  refine wl_y (y_assign rfl) rfl ?_
  refine wl_nil ?_
  refine wq_then_norm (hK4 ?_)
  refine wc_ret ?_
  refine hret rfl rfl ?_
  subst hl; exact ⟨A2, c2, A3, c3, rfl, H2, H3, hc2, E⟩
theorem hshared_any (A B C : Option Addr) (n c m d k q : Nat) (xs ys zs : List UInt8) (w : World) (HA : Bs w A n xs) (hn : n ≤ 1000) (HB : Bs w B m ys) (hm : m ≤ 1000) (HC : Bs w C k zs) (hk : k ≤ 1000) :
    Calls Try.prog 34 #[.slice A n c, .slice B m d, .slice C k q] w fun e w' => ∃ A' c', e = .returned (.slice A' 32 c') ∧ Bs w' A' 32 (shd xs ys zs) ∧ Ext w w' := by
  have E := Ext.refl w
  have hl2 := HB.1; have hl3 := HC.1
  refine vc_enter1 14 Try.func34 rfl rfl rfl rfl ?_
  intro Q hret
  refine wc_seq ?_; intro K1 hK1
  refine wc_region ?_
  refine wl_y (y_assign rfl) rfl ?_
  refine wl_nil ?_
  refine wq_then_norm (hK1 ?_)
  refine wc_seq ?_; intro K2 hK2
  refine wc_region ?_
  refine wl_y (y_move rfl) rfl ?_
  refine wl_call Try.func27 rfl rfl rfl (hextract_any KEM eae none A 0 0 n c [] xs _ (Bs.nil _ _) (by omega) HA (by omega) (by decide) (by decide)) rfl ?_
  rintro e w1 ⟨A1, c1, rfl, H1, ex⟩
  refine ⟨_, rfl, ?_⟩
  replace HA := HA.ext ex
  replace HB := HB.ext ex
  replace HC := HC.ext ex
  replace E := E.ext ex
  skip
  refine wl_y (y_move rfl) rfl ?_
  refine wl_y (y_move rfl) rfl ?_
  refine wl_ef (ef_lit (z := .slice none 0 0) Try.underlying79 (by kernel_rfl) rfl rfl rfl rfl rfl) rfl ?_
  rintro _ w2 ⟨g2, rfl, B2, hg2, ex⟩
  replace HA := HA.ext ex
  replace HB := HB.ext ex
  replace HC := HC.ext ex
  replace E := E.ext ex
  replace H1 := H1.ext ex
  have S2 := bss_two B2 HB HC
  refine wl_call Try.func56 rfl rfl rfl (concatH_any _ 2 2 [ys, zs] _ S2 (by omega) (by simp; omega)) rfl ?_
  rintro e w3 ⟨A3, k3, c3, rfl, R3, ex⟩
  refine ⟨_, rfl, ?_⟩
  replace HA := HA.ext ex
  replace HB := HB.ext ex
  replace HC := HC.ext ex
  replace E := E.ext ex
  replace H1 := H1.ext ex
  have H3 := R3.bs; have hk3 := H3.1; rw [show [ys, zs].flatten = ys ++ zs by simp] at H3 hk3; rw [List.length_append] at hk3
  refine wl_call Try.func26 rfl rfl rfl (hexpand_any KEM shs A1 A3 32 c1 k3 c3 32 _ (ys ++ zs) _ H1 (by omega) H3 (by omega) (by decide) (by decide) (by omega)) rfl ?_
  rintro e w4 ⟨A4, c4, rfl, H4, hc4, ex⟩
  refine ⟨_, rfl, ?_⟩
  replace HA := HA.ext ex
  replace HB := HB.ext ex
  replace HC := HC.ext ex
  replace E := E.ext ex
  replace H1 := H1.ext ex
  replace H3 := H3.ext ex
  skip
  refine wl_y (y_assign rfl) rfl ?_
  refine wl_nil ?_
  refine wq_then_norm (hK2 ?_)
  refine wc_ret ?_
  refine hret rfl ?_
  exact ⟨A4, c4, rfl, H4, E⟩
theorem dhM_code (xs ys : List UInt8) : (dhM xs ys).2 < 256 := by
  unfold dhM; split
  · show 1 < 256; omega
  · split
    · show 3 < 256; omega
    · show 0 < 256; omega
theorem dhS_code (xs ys : List UInt8) : (dhS xs ys).2 < 256 := by
  unfold dhS; split
  · exact dhM_code _ _
  · split
    · show 0 < 256; omega
    · show 9 < 256; omega
theorem dhM_len (xs ys : List UInt8) : (dhM xs ys).1.length ≤ 32 := by
  unfold dhM; split
  · exact Nat.zero_le _
  · split
    · exact Nat.zero_le _
    · exact Nat.le_of_eq (Fp.le_length _ _)
theorem dhS_len {xs ys : List UInt8} : (dhS xs ys).1.length ≤ 32 := by
  unfold dhS; split
  · exact Nat.zero_le _
  · split
    · exact dhM_len _ _
    · exact Nat.zero_le _
theorem hunwrap_any (A B : Option Addr) (n c m d : Nat) (xs ys : List UInt8) (w : World) (HA : Bs w A n xs) (_hn : n ≤ 1000) (HB : Bs w B m ys) (hm : m ≤ 1000) :
    Calls Try.prog 14 #[.slice A n c, .slice B m d] w fun e w' => ∃ A' k c', e = .returned (.tuple #[.slice A' k c', .int .u8 ((unw xs ys).2 : Int)]) ∧ Bs w' A' k (unw xs ys).1 ∧ k ≤ 32 ∧ Ext w w' := by
  have E := Ext.refl w
  refine vc_enter2 28 Try.func14 rfl rfl rfl rfl ?_
  intro Q hret
  refine wc_seq ?_; intro K1 hK1
  refine wc_region ?_
  refine wl_y (y_assign rfl) rfl ?_
  refine wl_y (y_assign rfl) rfl ?_
  refine wl_nil ?_
  refine wq_then_norm (hK1 ?_)
  refine wc_seq ?_; intro K2 hK2
  refine wc_region ?_
  refine wl_y (y_move rfl) rfl ?_
  refine wl_y (y_move rfl) rfl ?_
  refine wl_call Try.func16 rfl rfl rfl (dhshared_any A B n c m d xs ys _ HA HB) rfl ?_
  rintro e w1 ⟨A1, k1, c1, rfl, H1, _, ex⟩
  refine ⟨_, rfl, ?_⟩
  replace HA := HA.ext ex
  replace HB := HB.ext ex
  replace E := E.ext ex
  have hk1 := H1.1; have hl1 := dhS_len (xs := xs) (ys := ys)
  refine wl_y (y_move rfl) rfl ?_
  refine wl_y (y_extract rfl rfl) rfl ?_
  refine wl_y (y_extract rfl rfl) rfl ?_
  refine wl_y (y_assign rfl) rfl ?_
  refine wl_y (y_assign rfl) rfl ?_
  refine wl_nil ?_
  refine wq_then_norm (hK2 ?_)
  refine wc_seq ?_; intro K3 hK3
  refine wc_seq ?_; intro K4 hK4
  refine wc_region ?_
  refine wl_y (y_move rfl) rfl ?_
  refine wl_y (y_neq rfl rfl) rfl ?_
  refine wl_nil ?_
  refine wq_then_norm (hK4 ?_)
  refine wc_dec rfl (fun hc1 => ?_) (fun hc1 => ?_)
  · skip
    refine wc_seq ?_; intro K5 hK5
    refine wc_region ?_
    refine wl_y (y_move rfl) rfl ?_
    refine wl_y (y_assign rfl) rfl ?_
    refine wl_y (y_assign rfl) rfl ?_
    refine wl_nil ?_
    refine wq_then_norm (hK5 ?_)
    refine wc_ret ?_
    refine wq_then_ret ?_
    refine hret rfl rfl ?_
    exact ⟨none, 0, 0, by rw [unw, if_pos (by omega)], by rw [unw, if_pos (by omega)]; exact Bs.nil _ _, by omega, E⟩
  · skip
    refine wc_skip ?_
    refine wq_then_norm (hK3 ?_)
    refine wc_seq ?_; intro K6 hK6
    refine wc_region ?_
    refine wl_y (y_move rfl) rfl ?_
    refine wl_call Try.func12 rfl rfl rfl (dhbase_any A n c xs _ HA) rfl ?_
    rintro e w2 ⟨A2, k2, c2, rfl, H2, _, ex⟩
    refine ⟨_, rfl, ?_⟩
    replace HA := HA.ext ex
    replace HB := HB.ext ex
    replace E := E.ext ex
    replace H1 := H1.ext ex
    have hk2 := H2.1; have hl2 := dhM_len xs (Fp.le 32 9)
    refine wl_y (y_move rfl) rfl ?_
    refine wl_y (y_extract rfl rfl) rfl ?_
    refine wl_y (y_extract rfl rfl) rfl ?_
    refine wl_y (y_assign rfl) rfl ?_
    refine wl_y (y_assign rfl) rfl ?_
    refine wl_nil ?_
    refine wq_then_norm (hK6 ?_)
    refine wc_seq ?_; intro K7 hK7
    refine wc_region ?_
    refine wl_y (y_move rfl) rfl ?_
    refine wl_y (y_move rfl) rfl ?_
    refine wl_y (y_move rfl) rfl ?_
    refine wl_call Try.func34 rfl rfl rfl (hshared_any A1 B A2 k1 c1 m d k2 c2 _ ys _ _ H1 (by omega) HB hm H2 (by omega)) rfl ?_
    rintro e w3 ⟨A3, c3, rfl, H3, ex⟩
    refine ⟨_, rfl, ?_⟩
    replace HA := HA.ext ex
    replace HB := HB.ext ex
    replace E := E.ext ex
    replace H1 := H1.ext ex
    replace H2 := H2.ext ex
    skip
    refine wl_y (y_assign rfl) rfl ?_
    refine wl_y (y_assign rfl) rfl ?_
    refine wl_nil ?_
    refine wq_then_norm (hK7 ?_)
    refine wc_ret ?_
    refine hret rfl rfl ?_
    exact ⟨A3, 32, c3, by rw [unw, if_neg (by omega)]; rfl, by rw [unw, if_neg (by omega)]; exact H3, by omega, E⟩
/-- What Wrap hands back: a secret, an enc, an error. -/
def wrp (pb sd : List UInt8) : List UInt8 × List UInt8 × Nat := if (dhS (priv sd) pb).2 ≠ 0 then ([], [], (dhS (priv sd) pb).2) else (shd (dhS (priv sd) pb).1 (pub sd) pb, pub sd, 0)
theorem hwrap_any (A B : Option Addr) (n c m d : Nat) (xs ys : List UInt8) (w : World) (HA : Bs w A n xs) (hn : n ≤ 1000) (HB : Bs w B m ys) (hm : m ≤ 1000) :
    Calls Try.prog 20 #[.slice A n c, .slice B m d] w fun e w' => ∃ A' k c' A2 k2 c2, e = .returned (.tuple #[.slice A' k c', .slice A2 k2 c2, .int .u8 ((wrp xs ys).2.2 : Int)]) ∧ Bs w' A' k (wrp xs ys).1 ∧ Bs w' A2 k2 (wrp xs ys).2.1 ∧ k ≤ 32 ∧ k2 ≤ 32 ∧ Ext w w' := by
  have E := Ext.refl w
  refine vc_enter3 28 Try.func20 rfl rfl rfl rfl ?_
  intro Q hret
  refine wc_seq ?_; intro K1 hK1
  refine wc_region ?_
  refine wl_y (y_assign rfl) rfl ?_
  refine wl_y (y_assign rfl) rfl ?_
  refine wl_y (y_assign rfl) rfl ?_
  refine wl_nil ?_
  refine wq_then_norm (hK1 ?_)
  refine wc_seq ?_; intro K2 hK2
  refine wc_region ?_
  refine wl_y (y_move rfl) rfl ?_
  refine wl_call Try.func10 rfl rfl rfl (hpair_any B m d ys _ HB (by omega)) rfl ?_
  rintro e w1 ⟨A1, c1, A2, c2, rfl, H1, H2, hc1, ex⟩
  refine ⟨_, rfl, ?_⟩
  replace HA := HA.ext ex
  replace HB := HB.ext ex
  replace E := E.ext ex
  skip
  refine wl_y (y_move rfl) rfl ?_
  refine wl_y (y_extract rfl rfl) rfl ?_
  refine wl_y (y_extract rfl rfl) rfl ?_
  refine wl_y (y_assign rfl) rfl ?_
  refine wl_y (y_assign rfl) rfl ?_
  refine wl_nil ?_
  refine wq_then_norm (hK2 ?_)
  refine wc_seq ?_; intro K3 hK3
  refine wc_region ?_
  refine wl_y (y_move rfl) rfl ?_
  refine wl_y (y_move rfl) rfl ?_
  refine wl_call Try.func16 rfl rfl rfl (dhshared_any A1 A 32 c1 n c (priv ys) xs _ H1 HA) rfl ?_
  rintro e w2 ⟨A3, k3, c3, rfl, H3, _, ex⟩
  refine ⟨_, rfl, ?_⟩
  replace HA := HA.ext ex
  replace HB := HB.ext ex
  replace E := E.ext ex
  replace H1 := H1.ext ex
  replace H2 := H2.ext ex
  have hk3 := H3.1; have hl3 := dhS_len (xs := priv ys) (ys := xs)
  refine wl_y (y_move rfl) rfl ?_
  refine wl_y (y_extract rfl rfl) rfl ?_
  refine wl_y (y_extract rfl rfl) rfl ?_
  refine wl_y (y_assign rfl) rfl ?_
  refine wl_y (y_assign rfl) rfl ?_
  refine wl_nil ?_
  refine wq_then_norm (hK3 ?_)
  refine wc_seq ?_; intro K4 hK4
  refine wc_seq ?_; intro K5 hK5
  refine wc_region ?_
  refine wl_y (y_move rfl) rfl ?_
  refine wl_y (y_neq rfl rfl) rfl ?_
  refine wl_nil ?_
  refine wq_then_norm (hK5 ?_)
  refine wc_dec rfl (fun hc1 => ?_) (fun hc1 => ?_)
  · skip
    refine wc_seq ?_; intro K6 hK6
    refine wc_region ?_
    refine wl_y (y_move rfl) rfl ?_
    refine wl_y (y_assign rfl) rfl ?_
    refine wl_y (y_assign rfl) rfl ?_
    refine wl_y (y_assign rfl) rfl ?_
    refine wl_nil ?_
    refine wq_then_norm (hK6 ?_)
    refine wc_ret ?_
    refine wq_then_ret ?_
    refine hret rfl rfl rfl ?_
    exact ⟨none, 0, 0, none, 0, 0, by rw [wrp, if_pos (by omega)], by rw [wrp, if_pos (by omega)]; exact Bs.nil _ _, by rw [wrp, if_pos (by omega)]; exact Bs.nil _ _, by omega, by omega, E⟩
  · skip
    refine wc_skip ?_
    refine wq_then_norm (hK4 ?_)
    refine wc_seq ?_; intro K7 hK7
    refine wc_region ?_
    refine wl_y (y_move rfl) rfl ?_
    refine wl_y (y_move rfl) rfl ?_
    refine wl_y (y_move rfl) rfl ?_
    refine wl_call Try.func34 rfl rfl rfl (hshared_any A3 A2 A k3 c3 32 c2 n c _ _ xs _ H3 (by omega) H2 (by omega) HA hn) rfl ?_
    rintro e w3 ⟨A4, c4, rfl, H4, ex⟩
    refine ⟨_, rfl, ?_⟩
    replace HA := HA.ext ex
    replace HB := HB.ext ex
    replace E := E.ext ex
    replace H1 := H1.ext ex
    replace H2 := H2.ext ex
    replace H3 := H3.ext ex
    skip
    refine wl_y (y_move rfl) rfl ?_
    refine wl_y (y_assign rfl) rfl ?_
    refine wl_y (y_assign rfl) rfl ?_
    refine wl_y (y_assign rfl) rfl ?_
    refine wl_nil ?_
    refine wq_then_norm (hK7 ?_)
    refine wc_ret ?_
    refine hret rfl rfl rfl ?_
    exact ⟨A4, 32, c4, A2, 32, c2, by rw [wrp, if_neg (by omega)]; rfl, by rw [wrp, if_neg (by omega)]; exact H4, by rw [wrp, if_neg (by omega)]; exact H2, by omega, by omega, E⟩
end Go.Proofs.Ytjllhimhiekchaa
