/- Secrets of an epoch: sched's functions, what they hand back. -/
import Derived.Test.YtjllhimhiekchaaGreatDhB
import Derived.Test.YtjllhimhiekchaaGreatEdC
import Derived.Test.YtjllhimhiekchaaGreatFieldI
import Derived.Test.YtjllhimhiekchaaGreatKdfC
import Derived.Test.YtjllhimhiekchaaGreatSl
import Derived.Test.YtjllhimhiekchaaGreatCtxA
import Derived.Test.YtjllhimhiekchaaGreatMacA
import Derived.Test.YtjllhimhiekchaaGreatWireR
/- dh's Clamp, Mul, Base, Shared: what each hands back. -/
namespace Go.Proofs.YtjllhimhiekchaaGreat
open Go.RowKit
attribute [local irreducible] Y Ef WL WC WK WQ WM OpM WN WF OpN
def clampB (xs : List UInt8) : List UInt8 := ((Fp.pad xs).set 0 (UInt8.ofNat (((Fp.pad xs).getD 0 0).toNat / 8 * 8))).set 31 (UInt8.ofNat (((Fp.pad xs).getD 31 0).toNat % 64 + 64))
theorem clampB_length (xs : List UInt8) : (clampB xs).length = 32 := by unfold clampB; rw [List.length_set, List.length_set, Fp.pad_length]
theorem andNot7 : ∀ x : Fin 256, bits .andNot .u8 ((x.val : Nat) : Int) 7 = ((x.val / 8 * 8 : Nat) : Int) := by decide +kernel
theorem and63 : ∀ x : Fin 256, bits .and .u8 ((x.val : Nat) : Int) 63 = ((x.val % 64 : Nat) : Int) := by decide +kernel
theorem or64 : ∀ x : Fin 64, bits .or .u8 ((x.val : Nat) : Int) 64 = ((x.val + 64 : Nat) : Int) := by decide +kernel
theorem bys_at (l : List UInt8) (i : Nat) (h : i < l.length) : (bys l)[i]? = some (.int .u8 ((l.getD i 0).toNat : Int)) := by
 simp [bys, bv, h]
theorem bys_put (l : List UInt8) (i : Nat) (x : UInt8) : (bys l).setIfInBounds i (.int .u8 (x.toNat : Int)) = bys (l.set i x) := by
 simp [bys, bv, List.map_set]
theorem ofNat_val {n : Nat} (h : n < 256) : ((UInt8.ofNat n).toNat : Int) = (n : Int) := by rw [UInt8.toNat_ofNat']; omega
theorem clamp_any (A : Option Addr) (n c : Nat) (xs : List UInt8) (w : World) (HA : Bs w A n xs) :
  Calls Tryz.prog 253 #[.slice A n c] w fun e w' => ∃ g, e = .returned (.slice (some ⟨g, 0, none⟩) 32 32) ∧ Bs w' (some ⟨g, 0, none⟩) 32 (clampB xs) ∧ Ext w w' := by
 have hl := HA.1
 have hpl := Fp.pad_length xs
 have HT : Bs w A (min n 32) (xs.take 32) := by
  have h := HA.take (Nat.min_le_left n 32)
  have e : xs.take (min n 32) = xs.take 32 := by
   rcases Nat.le_total n 32 with h | h
   ·rw [Nat.min_eq_left h, List.take_of_length_le (by omega), List.take_of_length_le (by omega)]
   ·rw [Nat.min_eq_right h]
  rwa [e] at h
 obtain ⟨x0, hx0⟩ : ∃ x, x = ((Fp.pad xs).getD 0 0).toNat := ⟨_, rfl⟩
 obtain ⟨x1, hx1⟩ : ∃ x, x = ((Fp.pad xs).getD 31 0).toNat := ⟨_, rfl⟩
 have h0 : x0 < 256 := hx0 ▸ UInt8.toNat_lt _
 have h1 : x1 < 256 := hx1 ▸ UInt8.toNat_lt _
 refine vc_enter1 21 Tryz.func253 rfl rfl rfl rfl ?_
 intro Q hret
 refine wc_seq ?_; intro K1 hK1
 refine wc_region ?_
 refine wl_y (y_assign rfl) rfl ?_
 refine wl_nil ?_
 refine wq_then_norm (hK1 ?_)
 refine wc_seq ?_; intro K2 hK2
 refine wc_region ?_
 refine wl_ef (ef_make (n := 32) (z := .int .u8 0) (bytes := 1) rfl rfl Tryz.underlying23 (by kernel_rfl) rfl rfl rfl rfl (by omega) (by omega)) rfl ?_
 rintro _ w1 ⟨g, rfl, B1, hg, ex⟩
 have E1 := ex; replace B1 := B1.congr (show _ = bys (zbs 32) from rfl)
 refine wl_y (y_assign rfl) rfl ?_
 refine wl_nil ?_
 refine wq_then_norm (hK2 ?_)
 refine wc_seq ?_; intro K3 hK3
 refine wc_region ?_
 refine wl_y (y_move rfl) rfl ?_
 refine wl_y (y_move rfl) rfl ?_
 refine wl_ef (ef_copy rfl rfl Tryz.underlying23 (by kernel_rfl) B1 (HT.wk E1).2 (by rw [List.length_map, HT.1]) (by rw [List.length_map, HT.1, bys_size]; simp [zbs]; omega) (by intro u hu; exact bv_one u hu)) rfl ?_
 rintro _ w2 ⟨rfl, B2, cg⟩
 have E2 := E1.chg cg hg; replace B2 := padded xs B2
 refine wl_nil ?_
 refine wq_then_norm (hK3 ?_)
 refine wc_seq ?_; intro K4 hK4
 refine wc_region ?_
 refine wl_y (y_move rfl) rfl ?_
 refine wl_y (y_ixs1 rfl rfl Tryz.underlying23 (by kernel_rfl) (j := 0) rfl (by omega)) rfl ?_
 refine wl_y (y_load1 rfl Tryz.underlying5 rfl (B2.get (bys_at _ 0 (by omega)))) rfl ?_
 refine wl_y (y_andNot rfl rfl (show bits .andNot .u8 _ 7 = ((x0 / 8 * 8 : Nat) : Int) by rw [← hx0]; exact andNot7 ⟨x0, h0⟩)) rfl ?_
 refine wl_y (y_ixs1 rfl rfl Tryz.underlying23 (by kernel_rfl) (j := 0) rfl (by omega)) rfl ?_
 rw [← ofNat_val (n := x0 / 8 * 8) (by omega)]
 refine wl_ef (ef_storeB rfl rfl rfl (by kernel_rfl) B2 (by rw [bys_size]; omega)) rfl ?_
 rintro _ w3 ⟨rfl, B3, cg⟩
 have E3 := E2.chg cg hg; rw [bys_put] at B3
 refine wl_nil ?_
 refine wq_then_norm (hK4 ?_)
 refine wc_seq ?_; intro K5 hK5
 refine wc_region ?_
 refine wl_y (y_move rfl) rfl ?_
 refine wl_y (y_move rfl) rfl ?_
 refine wl_y (y_ixs1 rfl rfl Tryz.underlying23 (by kernel_rfl) (j := 31) rfl (by omega)) rfl ?_
 refine wl_y (y_load1 rfl Tryz.underlying5 rfl (B3.get (bys_at _ 31 (by rw [List.length_set]; omega)))) rfl ?_
 refine wl_y (y_and rfl rfl (show bits .and .u8 _ 63 = ((x1 % 64 : Nat) : Int) by rw [List.getD_eq_getElem?_getD, List.getElem?_set_ne (by omega), ← List.getD_eq_getElem?_getD, ← hx1]; exact and63 ⟨x1, h1⟩)) rfl ?_
 refine wl_y (y_or rfl rfl (or64 ⟨x1 % 64, by omega⟩)) rfl ?_
 refine wl_y (y_ixs1 rfl rfl Tryz.underlying23 (by kernel_rfl) (j := 31) rfl (by omega)) rfl ?_
 rw [← ofNat_val (n := x1 % 64 + 64) (by omega)]
 refine wl_ef (ef_storeB rfl rfl rfl (by kernel_rfl) B3 (by rw [bys_size, List.length_set]; omega)) rfl ?_
 rintro _ w4 ⟨rfl, B4, cg⟩
 have E4 := E3.chg cg hg; rw [bys_put] at B4
 refine wl_nil ?_
 refine wq_then_norm (hK5 ?_)
 refine wc_seq ?_; intro K6 hK6
 refine wc_region ?_
 refine wl_y (y_move rfl) rfl ?_
 refine wl_y (y_assign rfl) rfl ?_
 refine wl_nil ?_
 refine wq_then_norm (hK6 ?_)
 refine wc_ret ?_
 refine hret rfl ?_
 exact ⟨g, rfl, bs_blk' (xs := clampB xs) (B4.congr (by unfold clampB; rw [← hx0, ← hx1])) (clampB_length xs), E4⟩
end Go.Proofs.YtjllhimhiekchaaGreat

/- dh's Mul, Base, Shared, and the reference's Clamp: what each hands back. -/
namespace Go.Proofs.YtjllhimhiekchaaGreat
open Go.RowKit
attribute [local irreducible] Y Ef WL WC WK WQ WM OpM WN WF OpN
def dhM (xs ys : List UInt8) : List UInt8 × Nat := if xs.length ≠ 32 then ([], 1) else if ys.length ≠ 32 then ([], 3) else (Fp.le 32 (dhMul (Fp.num (clampB xs)) (Fp.of (Fp.ofB ys))).val, 0)
def RetB (w : World) (r : List UInt8 × Nat) (e : Ending) (w' : World) : Prop := ∃ A k c, e = .returned (.tuple #[.slice A k c, .int .u8 (r.2 : Int)]) ∧ Bs w' A k r.1 ∧ (∀ b o, A = some ⟨b, o, none⟩ → w.heap.size ≤ b) ∧ Ext w w'
theorem dhmul_any (A B : Option Addr) (n c m d : Nat) (xs ys : List UInt8) (w : World) (HA : Bs w A n xs) (HB : Bs w B m ys) :
  Calls Tryz.prog 226 #[.slice A n c, .slice B m d] w (RetB w (dhM xs ys)) := by
 have hx := HA.1; have hy := HB.1
 refine vc_enter2 19 Tryz.func226 rfl rfl rfl rfl ?_
 intro Q hret
 refine wc_seq ?_; intro K1 hK1
 refine wc_region ?_
 refine wl_y (y_assign rfl) rfl ?_
 refine wl_y (y_assign rfl) rfl ?_
 refine wl_nil ?_
 refine wq_then_norm (hK1 ?_)
 refine wc_seq ?_; intro K2 hK2
 refine wc_block ?_
 refine wc_seq ?_; intro K3 hK3
 refine wc_region ?_
 refine wl_y (y_move rfl) rfl ?_
 refine wl_y (y_len_slice rfl Tryz.underlying23) rfl ?_
 refine wl_y (y_neq rfl rfl) rfl ?_
 refine wl_y (y_assign rfl) rfl ?_
 refine wl_nil ?_
 refine wq_then_norm (hK3 ?_)
 refine wc_dec rfl (fun hc1 => ?_) (fun hc1 => ?_)
 ·skip
  refine wc_seq ?_; intro K4 hK4
  refine wc_region ?_
  refine wl_y (y_assign rfl) rfl ?_
  refine wl_y (y_assign rfl) rfl ?_
  refine wl_nil ?_
  refine wq_then_norm (hK4 ?_)
  refine wc_ret ?_
  refine wq_blk_ret ?_
  refine wq_then_ret ?_
  refine hret rfl rfl ?_
  exact ⟨none, 0, 0, by rw [dhM, if_pos (by omega)]; rfl, by rw [dhM, if_pos (by omega)]; exact Bs.nil _ _, fun _ _ h => (by cases h), Ext.refl _⟩
 ·skip
  refine wc_seq ?_; intro K5 hK5
  refine wc_region ?_
  refine wl_y (y_move rfl) rfl ?_
  refine wl_y (y_len_slice rfl Tryz.underlying23) rfl ?_
  refine wl_y (y_neq rfl rfl) rfl ?_
  refine wl_y (y_assign rfl) rfl ?_
  refine wl_nil ?_
  refine wq_then_norm (hK5 ?_)
  refine wc_dec rfl (fun hc2 => ?_) (fun hc2 => ?_)
  ·skip
   refine wc_seq ?_; intro K6 hK6
   refine wc_region ?_
   refine wl_y (y_assign rfl) rfl ?_
   refine wl_y (y_assign rfl) rfl ?_
   refine wl_nil ?_
   refine wq_then_norm (hK6 ?_)
   refine wc_ret ?_
   refine wq_blk_ret ?_
   refine wq_then_ret ?_
   refine hret rfl rfl ?_
   exact ⟨none, 0, 0, by rw [dhM, if_neg (by omega), if_pos (by omega)]; rfl, by rw [dhM, if_neg (by omega), if_pos (by omega)]; exact Bs.nil _ _, fun _ _ h => (by cases h), Ext.refl _⟩
  ·skip
   refine wc_skip ?_
   refine wq_blk_norm ?_
   refine wq_then_norm (hK2 ?_)
   refine wc_seq ?_; intro K7 hK7
   have hM : dhM xs ys = (Fp.le 32 (dhMul (Fp.num (clampB xs)) (Fp.of (Fp.ofB ys))).val, 0) := by rw [dhM, if_neg (by omega), if_neg (by omega)]
   refine wc_region ?_
   refine wl_y (y_move rfl) rfl ?_
   refine wl_call Tryz.func253 rfl rfl rfl (clamp_any A n c xs _ HA) rfl ?_
   rintro e w1 ⟨g1, rfl, H1, ex⟩
   refine ⟨_, rfl, ?_⟩
   replace HB := HB.ext ex
   have E1 := ex
   refine wl_y (y_move rfl) rfl ?_
   refine wl_call Tryz.func203 rfl rfl rfl (Fof_any B m d ys _ HB) rfl ?_
   rintro e w2 ⟨c2, rfl, F2, ex⟩
   refine ⟨_, rfl, ?_⟩
   replace HB := HB.ext ex
   replace H1 := H1.ext ex
   obtain ⟨f2, rfl, F2⟩ := F2.fe; have E2 := E1.ext ex
   refine wl_call Tryz.func252 rfl rfl rfl (product_any _ 32 _ f2 _ _ H1 F2) rfl ?_
   rintro e w3 ⟨g3, rfl, hg3, B3, ex⟩
   refine ⟨_, rfl, ?_⟩
   replace HB := HB.ext ex
   replace H1 := H1.ext ex
   have E3 := E2.ext ex; have hs := E2.size
   refine wl_y (y_assign rfl) rfl ?_
   refine wl_y (y_assign rfl) rfl ?_
   refine wl_nil ?_
   refine wq_then_norm (hK7 ?_)
   refine wc_ret ?_
   refine hret rfl rfl ?_
   exact ⟨some ⟨g3, 0, none⟩, 32, 32, by rw [hM]; rfl, by rw [hM]; exact bs_blk' B3 (Fp.le_length 32 _), fun b o h => by injection h with h; injection h with h; omega, E3⟩
theorem dhbase_any (A : Option Addr) (n c : Nat) (xs : List UInt8) (w : World) (HA : Bs w A n xs) :
  Calls Tryz.prog 166 #[.slice A n c] w (RetB w (dhM xs (Fp.le 32 9))) := by
 refine vc_enter2 10 Tryz.func166 rfl rfl rfl rfl ?_
 intro Q hret
 refine wc_seq ?_; intro K1 hK1
 refine wc_region ?_
 refine wl_y (y_assign rfl) rfl ?_
 refine wl_y (y_assign rfl) rfl ?_
 refine wl_nil ?_
 refine wq_then_norm (hK1 ?_)
 refine wc_seq ?_; intro K2 hK2
 refine wc_region ?_
 refine wl_y (y_move rfl) rfl ?_
 refine wl_call Tryz.func151 rfl rfl rfl (Fnum_any 9 _ (by omega)) rfl ?_
 rintro e w1 ⟨c1, rfl, F1, ex⟩
 refine ⟨_, rfl, ?_⟩
 replace HA := HA.ext ex
 have E1 := ex
 refine wl_call Tryz.func162 rfl rfl rfl (fbytes_any F1 _) rfl ?_
 rintro e w2 ⟨g2, rfl, hg2, B2, ex⟩
 refine ⟨_, rfl, ?_⟩
 replace HA := HA.ext ex
 have E2 := E1.ext ex; have H2 := bs_blk' B2 (Fp.le_length 32 _)
 refine wl_call Tryz.func226 rfl rfl rfl (dhmul_any A _ n c 32 32 xs (Fp.le 32 9) _ HA H2) rfl ?_
 rintro e w3 ⟨A3, k3, c3, rfl, H3, hf, ex⟩
 refine ⟨_, rfl, ?_⟩
 replace HA := HA.ext ex
 have E3 := E2.ext ex; have hs := E2.size
 refine wl_y (y_extract rfl rfl) rfl ?_
 refine wl_y (y_extract rfl rfl) rfl ?_
 refine wl_y (y_assign rfl) rfl ?_
 refine wl_y (y_assign rfl) rfl ?_
 refine wl_nil ?_
 refine wq_then_norm (hK2 ?_)
 refine wc_ret ?_
 refine hret rfl rfl ?_
 exact ⟨A3, k3, c3, rfl, H3, fun b o h => by have := hf b o h; omega, E3⟩
end Go.Proofs.YtjllhimhiekchaaGreat

/- hpke: pairs, shared secrets, Wrap, Unwrap, the lock, and boxes too short. No conditions: contracts of the program's functions. -/
namespace Go.Proofs.YtjllhimhiekchaaGreat
open Go.RowKit
attribute [local irreducible] Y Ef WL WC WK WQ WM OpM WN WF OpN
open Hk
namespace Hk
def KEM : ByteArray := ⟨#[75, 69, 77, 0, 32]⟩
def dkp : ByteArray := ⟨#[100, 107, 112, 95, 112, 114, 107]⟩
def skk : ByteArray := ⟨#[115, 107]⟩
def priv (xs : List UInt8) : List UInt8 := exp KEM (ext KEM [] dkp xs) skk [] 32
def pub (xs : List UInt8) : List UInt8 := (dhM (priv xs) (Fp.le 32 9)).1
end Hk
theorem exp_length (nm lb : ByteArray) (xs is : List UInt8) (k : Nat) : (Hk.exp nm xs lb is k).length = k := Kdf.expand_length _ _ _
theorem ext_length (nm lb : ByteArray) (xs ys : List UInt8) : (Hk.ext nm xs lb ys).length = 32 := Mac.tag_length _ _
theorem dhb_ok {xs : List UInt8} (hx : xs.length = 32) : (dhM xs (Fp.le 32 9)).1.length = 32 ∧ (dhM xs (Fp.le 32 9)).2 = 0 := by
 rw [dhM, if_neg (by omega), if_neg (by rw [Fp.le_length]; omega)]; exact ⟨Fp.le_length _ _, rfl⟩
theorem priv_length (xs : List UInt8) : (priv xs).length = 32 := exp_length _ _ _ _ _
theorem pub_length (xs : List UInt8) : (pub xs).length = 32 := (dhb_ok (priv_length xs)).1
theorem hpair_any (A : Option Addr) (n c : Nat) (xs : List UInt8) (w : World) (HA : Bs w A n xs) (hn : n ≤ 10000) :
  Calls Tryz.prog 80 #[.slice A n c] w fun e w' => ∃ A1 c1 A2 c2, e = .returned (.tuple #[.slice A1 32 c1, .slice A2 32 c2]) ∧ Bs w' A1 32 (priv xs) ∧ Bs w' A2 32 (pub xs) ∧ 32 ≤ c1 ∧ Ext w w' := by
 have E := Ext.refl w
 refine vc_enter2 14 Tryz.func80 rfl rfl rfl rfl ?_
 intro Q hret
 refine wc_seq ?_; intro K1 hK1
 refine wc_region ?_
 refine wl_y (y_assign rfl) rfl ?_
 refine wl_y (y_assign rfl) rfl ?_
 refine wl_nil ?_
 refine wq_then_norm (hK1 ?_)
 refine wc_seq ?_; intro K2 hK2
 refine wc_region ?_
 refine wl_y (y_move rfl) rfl ?_
 refine wl_call Tryz.func165 rfl rfl rfl (hextract_any KEM dkp none A 0 0 n c [] xs _ (Bs.nil _ _) (by omega) HA hn (by decide) (by decide)) rfl ?_
 rintro e w1 ⟨A1, c1, rfl, H1, ex⟩
 refine ⟨_, rfl, ?_⟩
 replace HA := HA.ext ex
 replace E := E.ext ex
 skip
 refine wl_call Tryz.func164 rfl rfl rfl (hexpand_any KEM skk A1 none 32 c1 0 0 32 _ [] _ H1 (by omega) (Bs.nil _ _) (by omega) (by decide) (by decide) (by omega)) rfl ?_
 rintro e w2 ⟨A2, c2, rfl, H2, hc2, ex⟩
 refine ⟨_, rfl, ?_⟩
 replace HA := HA.ext ex
 replace E := E.ext ex
 replace H1 := H1.ext ex
 skip
 refine wl_y (y_assign rfl) rfl ?_
 refine wl_nil ?_
 refine wq_then_norm (hK2 ?_)
 refine wc_seq ?_; intro K3 hK3
 refine wc_region ?_
 refine wl_y (y_move rfl) rfl ?_
 refine wl_call Tryz.func166 rfl rfl rfl (dhbase_any A2 32 c2 _ _ H2) rfl ?_
 rintro e w3 ⟨A3, k3, c3, rfl, H3, hf, ex⟩
 refine ⟨_, rfl, ?_⟩
 replace HA := HA.ext ex
 replace E := E.ext ex
 replace H1 := H1.ext ex
 replace H2 := H2.ext ex
 have hl : k3 = 32 := by rw [← H3.1]; exact (dhb_ok H2.1).1
 refine wl_y (y_move rfl) rfl ?_
 refine wl_y (y_extract rfl rfl) rfl ?_
 refine wl_y (y_extract rfl rfl) rfl ?_
 refine wl_y (y_assign rfl) rfl ?_
 refine wl_nil ?_
 refine wq_then_norm (hK3 ?_)
 refine wc_seq ?_; intro K4 hK4
 refine wc_region ?_
 refine wl_y (y_move rfl) rfl ?_
 refine wl_y (y_move rfl) rfl ?_
 refine wl_y (y_assign rfl) rfl ?_
 refine wl_y (y_assign rfl) rfl ?_
 refine wl_nil ?_
 refine wq_then_norm (hK4 ?_)
 refine wc_ret ?_
 refine hret rfl rfl ?_
 subst hl; exact ⟨A2, c2, A3, c3, rfl, H2, H3, hc2, E⟩
end Go.Proofs.YtjllhimhiekchaaGreat

namespace Go.Proofs.YtjllhimhiekchaaGreat
open Go.RowKit
attribute [local irreducible] Y Ef WL WC WK WQ WM OpM WN WF OpN
theorem label_length (k s c : List UInt8) (n : Nat) : (Kdf.label k s c n).length = n := by unfold Kdf.label; exact Kdf.expand_length _ _ _
end Go.Proofs.YtjllhimhiekchaaGreat
