/- The reference of scalars: the order, modulo it. Signatures as the program makes them: the halves of a digest, the secret, the public key. Signatures as the program makes them: whether one holds; one made. Signatures: the layer's alive, plainly: a public key that is known. Signatures: the layer's alive; the reference's digest; the law SignHolds. -/
import Derived.Test.YtjllhimhiekchaaGreatScA
import Derived.Test.YtjllhimhiekchaaGreatFieldI
import Derived.Test.YtjllhimhiekchaaGreatFieldQ
import Derived.Test.YtjllhimhiekchaaGreatVc7
import Derived.Test.YtjllhimhiekchaaGreatOffA
import Derived.Test.YtjllhimhiekchaaGreatScC
import Derived.Test.YtjllhimhiekchaaGreatLongE
import Derived.Test.YtjllhimhiekchaaGreatLongQ
import Derived.Test.YtjllhimhiekchaaGreatBigC
namespace Go.Proofs.YtjllhimhiekchaaGreat
section
open Go.RowKit
namespace Sc
end Sc
attribute [local irreducible] Y Ef WL WC WK WQ WM OpM WN WF OpN
end
section
open Go.RowKit
attribute [local irreducible] Y Ef WL WC WK WQ WM OpM WN WF OpN
namespace Sg
theorem andNot7' : ∀ x : Fin 256, bits .andNot .u8 ((x.val : Nat) : Int) 7 = ((x.val / 8 * 8 : Nat) : Int) := by decide +kernel
theorem and63' : ∀ x : Fin 256, bits .and .u8 ((x.val : Nat) : Int) 63 = ((x.val % 64 : Nat) : Int) := by decide +kernel
theorem or64' : ∀ x : Fin 64, bits .or .u8 ((x.val : Nat) : Int) 64 = ((x.val + 64 : Nat) : Int) := by decide +kernel
def turned (h : List UInt8) : List UInt8 := (h.set 0 (UInt8.ofNat ((h.getD 0 0).toNat / 8 * 8))).set 31 (UInt8.ofNat ((h.getD 31 0).toNat % 64 + 64))
theorem turned_length (h : List UInt8) : (turned h).length = h.length := by unfold turned; simp
theorem turned_drop (h : List UInt8) : (turned h).drop 32 = h.drop 32 := by
 unfold turned; rw [List.drop_set_of_lt (by omega), List.drop_set_of_lt (by omega)]
def raw (seed : List UInt8) : Nat := Fp.num ((turned (Lng.sum seed)).take 32)
def sec (seed : List UInt8) : Nat := raw seed % Sc.L
def pre (seed : List UInt8) : List UInt8 := (Lng.sum seed).drop 32
theorem pre_length (seed : List UInt8) : (pre seed).length = 32 := by unfold pre; rw [List.length_drop, Lng.sum_length]
theorem sec_lt (seed : List UInt8) : sec seed < Sc.L := Nat.mod_lt _ Sc.L_pos
def dig (xs : List UInt8) : Nat := Fp.num (Lng.sum xs) % Sc.L
theorem dig_lt (xs : List UInt8) : dig xs < Sc.L := Nat.mod_lt _ Sc.L_pos
theorem dig_take (xs : List UInt8) : Fp.num ((Lng.sum xs).take 64) % Sc.L = dig xs := by rw [List.take_of_length_le (by rw [Lng.sum_length]; omega)]; rfl
def pub (seed : List UInt8) : List UInt8 := Ed.enc (Ed.mul (sec seed) Ed.B)
end Sg
theorem halves_any (A : Option Addr) (n c : Nat) (xs : List UInt8) (w : World) (HA : Bs w A n xs) (hn : n ≤ 800000) :
  Calls Tryz.prog 146 #[.slice A n c] w fun e w' => ∃ g, e = .returned (.tuple #[.agg (ws (Sc.wd (Sg.sec xs))), .slice (some ⟨g, 32, none⟩) 32 32]) ∧ Bs w' (some ⟨g, 32, none⟩) 32 (Sg.pre xs) ∧ w.heap.size ≤ g ∧ Ext w w' := by
 have E := Ext.refl w
 have hxl := HA.1
 obtain ⟨h, hh⟩ : ∃ h, h = Lng.sum xs := ⟨_, rfl⟩
 have hl : h.length = 64 := by rw [hh, Lng.sum_length]
 obtain ⟨x0, hx0⟩ : ∃ x, x = (h.getD 0 0).toNat := ⟨_, rfl⟩
 obtain ⟨x1, hx1⟩ : ∃ x, x = (h.getD 31 0).toNat := ⟨_, rfl⟩
 have h0 : x0 < 256 := hx0 ▸ UInt8.toNat_lt _
 have h1 : x1 < 256 := hx1 ▸ UInt8.toNat_lt _
 have ht : (h.set 0 (UInt8.ofNat (x0 / 8 * 8))).set 31 (UInt8.ofNat (x1 % 64 + 64)) = Sg.turned h := by unfold Sg.turned; rw [hx0, hx1]
 have hs : Fp.num (((Sg.turned h).take 32).take 64) % Sc.L = Sg.sec xs := by
  rw [List.take_take, show min 64 32 = 32 from rfl, hh]; rfl
 have hp : (Sg.turned h).drop 32 = Sg.pre xs := by rw [Sg.turned_drop, hh]; rfl
 have htl : (Sg.turned h).length = 64 := by rw [Sg.turned_length, hl]
 refine vc_enterct (s := 4) 25 Tryz.func146 rfl rfl rfl Tryz.underlying142 rfl (by kernel_rfl) rfl ?_
 intro Q hret
 refine wc_seq ?_; intro K1 hK1
 refine wc_region ?_
 refine wl_ef (ef_alloc (Z := ws z4) (by kernel_rfl)) rfl ?_
 rintro _ w1 ⟨g2, rfl, B2, hg2, ex⟩
 replace E := E.ext ex
 have hz := ex.size; have hl2 := B2.lt
 refine wl_y (y_assign rfl) rfl ?_
 refine wl_nil ?_
 refine wq_then_norm (hK1 ?_)
 refine wc_seq ?_; intro K2 hK2
 refine wc_region ?_
 refine wl_y (y_move rfl) rfl ?_
 refine wl_ef (ef_lit (z := .slice none 0 0) Tryz.underlying145 (by kernel_rfl) rfl rfl rfl rfl rfl) rfl ?_
 rintro _ w2 ⟨g3, rfl, B3, hg3, ex⟩
 replace E := E.ext ex
 replace B2 := B2.ext ex
 have S3 := bss_one B3 (HA.ext E); have hz3 := E.size; have hl23 := B2.lt
 refine wl_call Tryz.func142 rfl rfl rfl (lof_any _ 1 1 _ _ S3 (by omega) (by simp; omega)) rfl ?_
 rintro e w3 ⟨g4, rfl, hg4, B4, ex⟩
 refine ⟨_, rfl, ?_⟩
 replace E := E.ext ex
 replace B2 := B2.ext ex
 rw [show [xs].flatten = xs by simp, ← hh] at B4
 refine wl_y (y_assign rfl) rfl ?_
 refine wl_nil ?_
 refine wq_then_norm (hK2 ?_)
 refine wc_seq ?_; intro K3 hK3
 refine wc_region ?_
 refine wl_y (y_move rfl) rfl ?_
 refine wl_y (y_ixs1 rfl rfl Tryz.underlying23 (by kernel_rfl) (j := 0) rfl (by omega)) rfl ?_
 refine wl_y (y_load1 rfl Tryz.underlying5 rfl (B4.get (bys_get (i := 0) (by omega)))) rfl ?_
 refine wl_y (y_andNot rfl rfl (show bits .andNot .u8 _ 7 = ((x0 / 8 * 8 : Nat) : Int) by rw [← hx0]; exact Sg.andNot7' ⟨x0, h0⟩)) rfl ?_
 refine wl_y (y_ixs1 rfl rfl Tryz.underlying23 (by kernel_rfl) (j := 0) rfl (by omega)) rfl ?_
 rw [← u8_val (n := x0 / 8 * 8) (by omega)]
 refine wl_ef (ef_storeB rfl rfl rfl (by kernel_rfl) B4 (by rw [bys_size]; omega)) rfl ?_
 rintro _ w4 ⟨rfl, D4, cg⟩
 rw [bys_set] at D4; replace E := E.chg cg (by omega); replace B2 := B2.chg cg (by omega)
 refine wl_nil ?_
 refine wq_then_norm (hK3 ?_)
 refine wc_seq ?_; intro K4 hK4
 refine wc_region ?_
 refine wl_y (y_move rfl) rfl ?_
 refine wl_y (y_move rfl) rfl ?_
 refine wl_y (y_ixs1 rfl rfl Tryz.underlying23 (by kernel_rfl) (j := 31) rfl (by omega)) rfl ?_
 refine wl_y (y_load1 rfl Tryz.underlying5 rfl (D4.get (bys_get (i := 31) (by rw [List.length_set]; omega)))) rfl ?_
 refine wl_y (y_and rfl rfl (show bits .and .u8 _ 63 = ((x1 % 64 : Nat) : Int) by rw [List.getD_eq_getElem?_getD, List.getElem?_set_ne (by omega), ← List.getD_eq_getElem?_getD, ← hx1]; exact Sg.and63' ⟨x1, h1⟩)) rfl ?_
 refine wl_y (y_or rfl rfl (Sg.or64' ⟨x1 % 64, by omega⟩)) rfl ?_
 refine wl_y (y_ixs1 rfl rfl Tryz.underlying23 (by kernel_rfl) (j := 31) rfl (by omega)) rfl ?_
 rw [← u8_val (n := x1 % 64 + 64) (by omega)]
 refine wl_ef (ef_storeB rfl rfl rfl (by kernel_rfl) D4 (by rw [bys_size, List.length_set]; omega)) rfl ?_
 rintro _ w5 ⟨rfl, D5, cg⟩
 rw [bys_set, ht] at D5; replace E := E.chg cg (by omega); replace B2 := B2.chg cg (by omega); have hw4 : w.heap.size ≤ g4 := (by omega); have h24 : g2 ≠ g4 := (by omega); have H5 := bs_blk' D5 htl
 refine wl_nil ?_
 refine wq_then_norm (hK4 ?_)
 refine wc_seq ?_; intro K5 hK5
 refine wc_draw (by kernel_rfl) 7 rfl ?_; intro wd4 ex hd4
 replace E := E.ext ex
 replace B2 := B2.ext ex
 replace H5 := H5.ext ex
 refine wm_z 0 rfl (by kernel_rfl) (fun _ => y_move rfl) rfl ?_
 refine wm_z 1 rfl (by kernel_rfl) (fun _ => y_cuth (s := 1) rfl rfl Tryz.underlying23 (by kernel_rfl) (j := 32) rfl (by omega)) rfl ?_
 refine wm_z 3 rfl (by kernel_rfl) (fun _ => y_move rfl) rfl ?_
 refine wm_z 4 rfl (by kernel_rfl) (fun _ => y_cutl (s := 1) rfl rfl Tryz.underlying23 (by kernel_rfl) (j := 32) rfl (by omega)) rfl ?_
 refine wm_one 2 (by kernel_rfl) ?_; refine om_call rfl Tryz.func141 rfl rfl rfl (scof_any _ 32 64 ((Sg.turned h).take 32) _ (H5.take (by omega)) (by omega)) rfl ?_
 rintro e w6 ⟨rfl, ex⟩
 refine ⟨_, rfl, .inr ex, ?_⟩
 replace E := E.ext ex
 replace B2 := B2.ext ex
 replace H5 := H5.ext ex
 rw [hs]
 refine wm_one 5 (by kernel_rfl) ?_; refine om_ef rfl (ef_storeW rfl rfl (by rw [ws_size]; kernel_rfl) B2 (by rw [ws_size, ws_size]) (ws_one _)) rfl ?_
 rintro _ w7 ⟨rfl, D2, cg⟩
 refine ⟨.inl rfl, ?_⟩
 have E4 := E.chg cg hg2; have H7 := H5.chg cg fun b off e => by { injection e with e; injection e with e _; omega }
 refine wm_y 6 rfl (by kernel_rfl) (y_assign rfl) rfl ?_
 refine wm_done (by kernel_rfl) ?_
 refine wq_nop ?_
 refine wq_then_norm (hK5 ?_)
 refine wc_ret ?_
 refine hret rfl rfl D2 (ws_size _) ?_
 exact ⟨g4, rfl, by have := H7.cut (k := 32) (cap := 64) (by omega) (by omega); rw [hp] at this; exact this, hw4, E4⟩
theorem Secret_any (A : Option Addr) (n c : Nat) (xs : List UInt8) (w : World) (HA : Bs w A n xs) (hn : n ≤ 800000) :
  Calls Tryz.prog 77 #[.slice A n c] w fun e w' => e = .returned (.agg (ws (Sc.wd (if xs.length = 32 then Sg.sec xs else 0)))) ∧ Ext w w' := by
 have E := Ext.refl w
 have hl := HA.1
 have hz0 : ws z4 = ws (Sc.wd 0) := ws_congr fun j _ => by unfold z4 Sc.wd; simp
 refine vc_enterc1 (s := 4) 15 Tryz.func77 rfl rfl rfl Tryz.underlying142 rfl (by kernel_rfl) rfl ?_
 intro Q hret
 refine wc_seq ?_; intro K1 hK1
 refine wc_region ?_
 refine wl_ef (ef_alloc (Z := ws z4) (by kernel_rfl)) rfl ?_
 rintro _ w1 ⟨g2, rfl, B2, hg2, ex⟩
 replace E := E.ext ex
 skip
 refine wl_nil ?_
 refine wq_then_norm (hK1 ?_)
 refine wc_seq ?_; intro K2 hK2
 refine wc_seq ?_; intro K3 hK3
 refine wc_region ?_
 refine wl_y (y_move rfl) rfl ?_
 refine wl_y (y_len_slice rfl Tryz.underlying23) rfl ?_
 refine wl_y (y_neq rfl rfl) rfl ?_
 refine wl_nil ?_
 refine wq_then_norm (hK3 ?_)
 refine wc_dec rfl (fun hc1 => ?_) (fun hc1 => ?_)
 ·skip
  refine wc_seq ?_; intro K4 hK4
  refine wc_region ?_
  refine wl_y (y_build rfl (cells := ws z4) (by kernel_rfl)) rfl ?_
  refine wl_ef (ef_storeW rfl rfl (by rw [ws_size]; kernel_rfl) B2 (by simp only [ws_size]) (ws_one _)) rfl ?_
  rintro _ w3 ⟨rfl, D2, cg⟩
  replace E := E.chg cg hg2; rw [hz0] at D2
  refine wl_nil ?_
  refine wq_then_norm (hK4 ?_)
  refine wc_ret ?_
  refine wq_then_ret ?_
  refine hret rfl D2 (ws_size _) ?_
  exact ⟨by rw [if_neg (show ¬ xs.length = 32 by omega)], E⟩
 ·skip
  refine wc_skip ?_
  refine wq_then_norm (hK2 ?_)
  refine wc_seq ?_; intro K5 hK5
  refine wc_region ?_
  refine wl_y (y_move rfl) rfl ?_
  refine wl_call Tryz.func146 rfl rfl rfl (halves_any A n c xs _ (HA.ext E) hn) rfl ?_
  rintro e w4 ⟨g4, rfl, H4, hg4, ex⟩
  refine ⟨_, rfl, ?_⟩
  replace E := E.ext ex
  replace B2 := B2.ext ex
  skip
  refine wl_y (y_move rfl) rfl ?_
  refine wl_y (y_extract rfl rfl) rfl ?_
  refine wl_y (y_extract rfl rfl) rfl ?_
  have hz5 := E.size; have hl5 := B2.lt
  refine wl_ef (ef_alloc (Z := ws z4) (by kernel_rfl)) rfl ?_
  rintro _ w5 ⟨g3, rfl, B3, hg3, ex⟩
  replace E := E.ext ex
  replace B2 := B2.ext ex
  skip
  refine wl_ef (ef_storeW rfl rfl (by rw [ws_size]; kernel_rfl) B3 (by rw [ws_size, ws_size]) (ws_one _)) rfl ?_
  rintro _ w6 ⟨rfl, D3, cg⟩
  replace E := E.chg cg (by omega); replace B2 := B2.chg cg (by omega)
  refine wl_y (y_assign rfl) rfl ?_
  refine wl_nil ?_
  refine wq_then_norm (hK5 ?_)
  refine wc_seq ?_; intro K6 hK6
  refine wc_region ?_
  refine wl_y ((y_loadw rfl Tryz.underlying142 rfl (by rw [ws_size]; kernel_rfl) D3)) rfl ?_
  refine wl_ef (ef_storeW rfl rfl (by rw [ws_size]; kernel_rfl) B2 (by rw [ws_size, ws_size]) (ws_one _)) rfl ?_
  rintro _ w7 ⟨rfl, D2, cg⟩
  replace E := E.chg cg (by omega)
  refine wl_nil ?_
  refine wq_then_norm (hK6 ?_)
  refine wc_ret ?_
  refine hret rfl D2 (ws_size _) ?_
  exact ⟨by rw [if_pos (show xs.length = 32 by omega)], E⟩
def pubE (xs : List UInt8) : List UInt8 × Nat := if xs.length = 32 then (Sg.pub xs, 0) else ([], 1)
theorem Public_any (A : Option Addr) (n c : Nat) (xs : List UInt8) (w : World) (HA : Bs w A n xs) (hn : n ≤ 800000) :
  Calls Tryz.prog 30 #[.slice A n c] w fun e w' => ∃ A' k c', e = .returned (.tuple #[.slice A' k c', .int .u8 ((pubE xs).2 : Int)]) ∧ Bs w' A' k (pubE xs).1 ∧ k ≤ 32 ∧ k ≤ c' ∧ Ext w w' := by
 have E := Ext.refl w
 have hl := HA.1
 refine vc_enter2 12 Tryz.func30 rfl rfl rfl rfl ?_
 intro Q hret
 refine wc_seq ?_; intro K1 hK1
 refine wc_region ?_
 refine wl_y (y_assign rfl) rfl ?_
 refine wl_y (y_assign rfl) rfl ?_
 refine wl_nil ?_
 refine wq_then_norm (hK1 ?_)
 refine wc_seq ?_; intro K2 hK2
 refine wc_seq ?_; intro K3 hK3
 refine wc_region ?_
 refine wl_y (y_move rfl) rfl ?_
 refine wl_y (y_len_slice rfl Tryz.underlying23) rfl ?_
 refine wl_y (y_neq rfl rfl) rfl ?_
 refine wl_nil ?_
 refine wq_then_norm (hK3 ?_)
 refine wc_dec rfl (fun hc1 => ?_) (fun hc1 => ?_)
 ·skip
  refine wc_seq ?_; intro K4 hK4
  refine wc_region ?_
  refine wl_y (y_assign rfl) rfl ?_
  refine wl_y (y_assign rfl) rfl ?_
  refine wl_nil ?_
  refine wq_then_norm (hK4 ?_)
  refine wc_ret ?_
  refine wq_then_ret ?_
  refine hret rfl rfl ?_
  exact ⟨none, 0, 0, by unfold pubE; rw [if_neg (show ¬ xs.length = 32 by omega)]; rfl, by unfold pubE; rw [if_neg (show ¬ xs.length = 32 by omega)]; exact Bs.nil _ _, by omega, by omega, E⟩
 ·skip
  refine wc_skip ?_
  refine wq_then_norm (hK2 ?_)
  refine wc_seq ?_; intro K5 hK5
  refine wc_region ?_
  refine wl_call Tryz.func75 rfl rfl rfl (pbase_any _) rfl ?_
  rintro e w1 ⟨c1, rfl, P1, ex⟩
  refine ⟨_, rfl, ?_⟩
  replace E := E.ext ex
  skip
  refine wl_y (y_move rfl) rfl ?_
  refine wl_call Tryz.func77 rfl rfl rfl (Secret_any A n c xs _ (HA.ext E) hn) rfl ?_
  rintro e w2 ⟨rfl, ex⟩
  refine ⟨_, rfl, ?_⟩
  replace E := E.ext ex
  rw [if_pos (show xs.length = 32 by omega)]
  refine wl_call Tryz.func76 rfl rfl rfl (Pmul_any P1.pp Ed.on_B (Sg.sec xs) (Sg.sec_lt xs) _) rfl ?_
  rintro e w3 ⟨c3, rfl, P3, ex⟩
  refine ⟨_, rfl, ?_⟩
  replace E := E.ext ex
  skip
  refine wl_call Tryz.func78 rfl rfl rfl (Pbytes_any P3.pp _) rfl ?_
  rintro e w4 ⟨g4, rfl, hg4, B4, ex⟩
  refine ⟨_, rfl, ?_⟩
  replace E := E.ext ex
  skip
  refine wl_y (y_assign rfl) rfl ?_
  refine wl_y (y_assign rfl) rfl ?_
  refine wl_nil ?_
  refine wq_then_norm (hK5 ?_)
  refine wc_ret ?_
  refine hret rfl rfl ?_
  exact ⟨some ⟨g4, 0, none⟩, 32, 32, by unfold pubE; rw [if_pos (show xs.length = 32 by omega)]; rfl, by unfold pubE; rw [if_pos (show xs.length = 32 by omega)]; exact bs_blk' B4 (Ed.enc_length _), by omega, by omega, E⟩
end
section
open Go.RowKit
attribute [local irreducible] Y Ef WL WC WK WQ WM OpM WN WF OpN
theorem dec_onS (xs : List UInt8) : Ed.On ((Ed.dec xs).getD Ed.O) := dec_onD xs
namespace Sg
def left (s : List UInt8) : Fp.F × Fp.F := Ed.mul (Fp.num (s.drop 32)) Ed.B
def right (p t s : List UInt8) : Fp.F × Fp.F := Ed.add ((Ed.dec (s.take 32)).getD Ed.O) (Ed.mul (dig (s.take 32 ++ p ++ t)) ((Ed.dec p).getD Ed.O))
def whole (p s : List UInt8) : Bool := (Ed.dec (s.take 32)).isSome && decide (Fp.num (s.drop 32) < Sc.L) && (Ed.dec p).isSome
def holds (p t s : List UInt8) : Bool := decide (s.length = 64) && whole p s && decide (left s = right p t s)
end Sg
set_option maxHeartbeats 1000000 in
theorem Holds_any (A : Option Addr) (n c : Nat) (ps : List UInt8) (B : Option Addr) (m d : Nat) (ts : List UInt8) (C : Option Addr) (k f : Nat) (ss : List UInt8) (w : World) (HA : Bs w A n ps) (HB : Bs w B m ts) (HC : Bs w C k ss) (hn : n ≤ 100000) (hm : m ≤ 100000) (hk : k ≤ 100000) (hf : k ≤ f) :
  Calls Tryz.prog 70 #[.slice A n c, .slice B m d, .slice C k f] w fun e w' => e = .returned (.bool (Sg.holds ps ts ss)) ∧ Ext w w' := by
 have E := Ext.refl w
 have hlA := HA.1; have hlB := HB.1; have hlC := HC.1
 refine vc_enter1 60 Tryz.func70 rfl rfl rfl rfl ?_
 intro Q hret
 refine wc_seq ?_; intro K1 hK1
 refine wc_region ?_
 refine wl_y (y_assign rfl) rfl ?_
 refine wl_nil ?_
 refine wq_then_norm (hK1 ?_)
 refine wc_seq ?_; intro K2 hK2
 refine wc_seq ?_; intro K3 hK3
 refine wc_region ?_
 refine wl_y (y_move rfl) rfl ?_
 refine wl_y (y_len_slice rfl Tryz.underlying23) rfl ?_
 refine wl_y (y_neq rfl rfl) rfl ?_
 refine wl_nil ?_
 refine wq_then_norm (hK3 ?_)
 refine wc_dec rfl (fun hc1 => ?_) (fun hc1 => ?_)
 ·skip
  refine wc_seq ?_; intro K4 hK4
  refine wc_region ?_
  refine wl_y (y_assign rfl) rfl ?_
  refine wl_nil ?_
  refine wq_then_norm (hK4 ?_)
  refine wc_ret ?_
  refine wq_then_ret ?_
  refine hret rfl ?_
  exact ⟨by unfold Sg.holds; rw [decide_eq_false (show ¬ ss.length = 64 by omega)]; rfl, E⟩
 ·skip
  refine wc_skip ?_
  refine wq_then_norm (hK2 ?_)
  refine wc_seq ?_; intro K5 hK5
  have h64 : ss.length = 64 := by omega
  have hk64 : k = 64 := by omega
  subst hk64
  have HL := HC.take (k := 32) (by omega)
  have HH := HC.cutA (c := f) (j := 32) (by omega) (by omega)
  have hdl : (ss.drop 32).length = 32 := by rw [List.length_drop]; omega
  refine wc_region ?_
  refine wl_y (y_move rfl) rfl ?_
  refine wl_y (y_cuth (s := 1) rfl rfl Tryz.underlying23 (by kernel_rfl) (j := 32) rfl (by omega)) rfl ?_
  refine wl_call Tryz.func139 rfl rfl rfl (Pof_any C 32 f (ss.take 32) _ (HL.ext E)) rfl ?_
  rintro e w1 ⟨c7, rfl, P7, ex⟩
  refine ⟨_, rfl, ?_⟩
  replace E := E.ext ex
  have o7 := dec_onS (ss.take 32)
  refine wl_y (y_move rfl) rfl ?_
  refine wl_y (y_extract rfl rfl) rfl ?_
  refine wl_y (y_extract rfl rfl) rfl ?_
  have hz3 := E.size
  refine wl_ef (ef_alloc (Z := pc zf zf zf zf false) (by kernel_rfl)) rfl ?_
  rintro _ w2 ⟨g7, rfl, B7, hg7, ex⟩
  replace E := E.ext ex
  skip
  refine wl_ef (ef_storeW rfl rfl (by rw [P7.size]; kernel_rfl) B7 (by rw [pc_size, P7.size]) P7.one) rfl ?_
  rintro _ w3 ⟨rfl, D7, cg⟩
  replace E := E.chg cg (by omega); replace B7 := D7
  refine wl_y (y_assign rfl) rfl ?_
  refine wl_nil ?_
  refine wq_then_norm (hK5 ?_)
  refine wc_seq ?_; intro K6 hK6
  refine wc_region ?_
  refine wl_y (y_move rfl) rfl ?_
  refine wl_y (y_cutl (s := 1) rfl rfl Tryz.underlying23 (by kernel_rfl) (j := 32) rfl (by omega)) rfl ?_
  refine wl_call Tryz.func140 rfl rfl rfl (Sexact_any (cutA C f 32 1) (64 - 32) (f - 32) (ss.drop 32) _ (HH.ext E) (by omega)) rfl ?_
  rintro e w4 ⟨v, rfl, hv, hvL, ex⟩
  refine ⟨_, rfl, ?_⟩
  replace E := E.ext ex
  replace B7 := B7.ext ex
  skip
  refine wl_y (y_move rfl) rfl ?_
  refine wl_y (y_extract rfl rfl) rfl ?_
  refine wl_y (y_extract rfl rfl) rfl ?_
  have hz4 := E.size; have hl47 := B7.lt
  refine wl_ef (ef_alloc (Z := ws z4) (by kernel_rfl)) rfl ?_
  rintro _ w5 ⟨g9, rfl, B9, hg9, ex⟩
  replace E := E.ext ex
  replace B7 := B7.ext ex
  skip
  refine wl_ef (ef_storeW rfl rfl (by rw [ws_size]; kernel_rfl) B9 (by rw [ws_size, ws_size]) (ws_one _)) rfl ?_
  rintro _ w6 ⟨rfl, D9, cg⟩
  replace E := E.chg cg (by omega); replace B7 := B7.chg cg (by omega); replace B9 := D9
  refine wl_y (y_assign rfl) rfl ?_
  refine wl_nil ?_
  refine wq_then_norm (hK6 ?_)
  refine wc_seq ?_; intro K7 hK7
  refine wc_region ?_
  refine wl_y (y_move rfl) rfl ?_
  refine wl_call Tryz.func139 rfl rfl rfl (Pof_any A n c ps _ (HA.ext E)) rfl ?_
  rintro e w7 ⟨c11, rfl, P11, ex⟩
  refine ⟨_, rfl, ?_⟩
  replace E := E.ext ex
  replace B7 := B7.ext ex
  replace B9 := B9.ext ex
  have o11 := dec_onS ps
  refine wl_y (y_move rfl) rfl ?_
  refine wl_y (y_extract rfl rfl) rfl ?_
  refine wl_y (y_extract rfl rfl) rfl ?_
  have hz5 := E.size; have hl57 := B7.lt; have hl59 := B9.lt
  refine wl_ef (ef_alloc (Z := pc zf zf zf zf false) (by kernel_rfl)) rfl ?_
  rintro _ w8 ⟨g11, rfl, B11, hg11, ex⟩
  replace E := E.ext ex
  replace B7 := B7.ext ex
  replace B9 := B9.ext ex
  skip
  refine wl_ef (ef_storeW rfl rfl (by rw [P11.size]; kernel_rfl) B11 (by rw [pc_size, P11.size]) P11.one) rfl ?_
  rintro _ w9 ⟨rfl, D11, cg⟩
  replace E := E.chg cg (by omega); replace B7 := B7.chg cg (by omega); replace B9 := B9.chg cg (by omega); replace B11 := D11
  refine wl_y (y_assign rfl) rfl ?_
  refine wl_nil ?_
  refine wq_then_norm (hK7 ?_)
  refine wc_seq ?_; intro K8 hK8
  refine wc_seq ?_; intro K9 hK9
  refine wc_region ?_
  refine wl_y (y_move rfl) rfl ?_
  refine wl_y (y_not rfl) rfl ?_
  refine wl_yaskb (y_move rfl) rfl (fun h1 => ?_) (fun h1 => ?_)
  ·skip
   refine wl_gno 36 rfl rfl rfl rfl ?_
   refine wl_gno 36 rfl rfl rfl rfl ?_
   refine wl_y (y_pickt rfl rfl) rfl ?_
   refine wl_y (y_move rfl) rfl ?_
   refine wl_gno 40 rfl rfl rfl rfl ?_
   refine wl_gno 40 rfl rfl rfl rfl ?_
   refine wl_y (y_pickt rfl rfl) rfl ?_
   refine wl_nil ?_
   refine wq_then_norm (hK9 ?_)
   refine wc_true rfl rfl ?_
   refine wc_seq ?_; intro K10 hK10
   refine wc_region ?_
   refine wl_y (y_assign rfl) rfl ?_
   refine wl_nil ?_
   refine wq_then_norm (hK10 ?_)
   refine wc_ret ?_
   refine wq_then_ret ?_
   refine hret rfl ?_
   exact ⟨by unfold Sg.holds Sg.whole; rw [show (Ed.dec (ss.take 32)).isSome = false by simpa using h1]; simp, E⟩
  ·skip
   refine wl_gy 36 rfl rfl (y_move rfl) rfl ?_
   refine wl_gy 36 rfl rfl (y_not rfl) rfl ?_
   refine wl_y (y_pickf rfl rfl) rfl ?_
   refine wl_yaskb (y_move rfl) rfl (fun h2 => ?_) (fun h2 => ?_)
   ·skip
    refine wl_gno 40 rfl rfl rfl rfl ?_
    refine wl_gno 40 rfl rfl rfl rfl ?_
    refine wl_y (y_pickt rfl rfl) rfl ?_
    refine wl_nil ?_
    refine wq_then_norm (hK9 ?_)
    refine wc_true rfl rfl ?_
    refine wc_seq ?_; intro K11 hK11
    refine wc_region ?_
    refine wl_y (y_assign rfl) rfl ?_
    refine wl_nil ?_
    refine wq_then_norm (hK11 ?_)
    refine wc_ret ?_
    refine wq_then_ret ?_
    refine hret rfl ?_
    exact ⟨by unfold Sg.holds Sg.whole; rw [decide_eq_false (show ¬ Fp.num (ss.drop 32) < Sc.L by simpa [hdl] using h2)]; simp, E⟩
   ·skip
    refine wl_gy 40 rfl rfl (y_move rfl) rfl ?_
    refine wl_gy 40 rfl rfl (y_not rfl) rfl ?_
    refine wl_y (y_pickf rfl rfl) rfl ?_
    refine wl_nil ?_
    refine wq_then_norm (hK9 ?_)
    refine wc_cond rfl (fun hc2 => ?_) (fun hc2 => ?_)
    ·skip
     refine wc_seq ?_; intro K12 hK12
     refine wc_region ?_
     refine wl_y (y_assign rfl) rfl ?_
     refine wl_nil ?_
     refine wq_then_norm (hK12 ?_)
     refine wc_ret ?_
     refine wq_then_ret ?_
     refine hret rfl ?_
     exact ⟨by unfold Sg.holds Sg.whole; rw [show (Ed.dec ps).isSome = false by simpa using hc2]; simp, E⟩
    ·skip
     refine wc_skip ?_
     refine wq_then_norm (hK8 ?_)
     refine wc_seq ?_; intro K13 hK13
     have w1' : (Ed.dec (ss.take 32)).isSome = true := by simpa using h1
     have w2' : Fp.num (ss.drop 32) < Sc.L := by simpa [hdl] using h2
     have w3' : (Ed.dec ps).isSome = true := by simpa using hc2
     have hv' := hv ⟨hdl, w2'⟩
     subst hv'
     refine wc_region ?_
     refine wl_y (y_move rfl) rfl ?_
     refine wl_y (y_cuth (s := 1) rfl rfl Tryz.underlying23 (by kernel_rfl) (j := 32) rfl (by omega)) rfl ?_
     refine wl_y (y_move rfl) rfl ?_
     refine wl_y (y_move rfl) rfl ?_
     refine wl_ef (ef_lit (z := .slice none 0 0) Tryz.underlying145 (by kernel_rfl) rfl rfl rfl rfl rfl) rfl ?_
     rintro _ w10 ⟨g10, rfl, B10, hg10, ex⟩
     replace E := E.ext ex
     replace B7 := B7.ext ex
     replace B9 := B9.ext ex
     replace B11 := B11.ext ex
     have S10 := bss_three B10 (HL.ext E) (HA.ext E) (HB.ext E)
     refine wl_call Tryz.func142 rfl rfl rfl (lof_any _ 3 3 _ _ S10 (by omega) (by simp; omega)) rfl ?_
     rintro e w11 ⟨g12, rfl, hg12, B12, ex⟩
     refine ⟨_, rfl, ?_⟩
     replace E := E.ext ex
     replace B7 := B7.ext ex
     replace B9 := B9.ext ex
     replace B11 := B11.ext ex
     rw [show [ss.take 32, ps, ts].flatten = ss.take 32 ++ ps ++ ts by simp] at B12
     refine wl_call Tryz.func141 rfl rfl rfl (scof_any _ 64 64 _ _ (bs_blk' B12 (Lng.sum_length _)) (by omega)) rfl ?_
     rintro e w12 ⟨rfl, ex⟩
     refine ⟨_, rfl, ?_⟩
     replace E := E.ext ex
     replace B7 := B7.ext ex
     replace B9 := B9.ext ex
     replace B11 := B11.ext ex
     rw [Sg.dig_take]
     have hz8 := E.size; have hl87 := B7.lt; have hl89 := B9.lt; have hl811 := B11.lt
     refine wl_ef (ef_alloc (Z := ws z4) (by kernel_rfl)) rfl ?_
     rintro _ w13 ⟨g13, rfl, B13, hg13, ex⟩
     replace E := E.ext ex
     replace B7 := B7.ext ex
     replace B9 := B9.ext ex
     replace B11 := B11.ext ex
     skip
     refine wl_ef (ef_storeW rfl rfl (by rw [ws_size]; kernel_rfl) B13 (by rw [ws_size, ws_size]) (ws_one _)) rfl ?_
     rintro _ w14 ⟨rfl, D13, cg⟩
     replace E := E.chg cg (by omega); replace B7 := B7.chg cg (by omega); replace B9 := B9.chg cg (by omega); replace B11 := B11.chg cg (by omega); replace B13 := D13
     refine wl_nil ?_
     refine wq_then_norm (hK13 ?_)
     refine wc_seq ?_; intro K14 hK14
     refine wc_draw (by kernel_rfl) 10 rfl ?_; intro wd9 ex hd9
     replace E := E.ext ex
     replace B7 := B7.ext ex
     replace B9 := B9.ext ex
     replace B11 := B11.ext ex
     replace B13 := B13.ext ex
     refine wm_y 1 rfl (by kernel_rfl) ((y_loadw rfl Tryz.underlying142 rfl (by rw [ws_size]; kernel_rfl) B9)) rfl ?_
     refine wm_y 3 rfl (by kernel_rfl) (y_qq rfl P7 B7) rfl ?_
     refine wm_y 4 rfl (by kernel_rfl) (y_qq rfl P11 B11) rfl ?_
     refine wm_y 5 rfl (by kernel_rfl) ((y_loadw rfl Tryz.underlying142 rfl (by rw [ws_size]; kernel_rfl) B13)) rfl ?_
     refine wm_one 0 (by kernel_rfl) ?_; refine om_call rfl Tryz.func75 rfl rfl rfl (pbase_any _) rfl ?_
     rintro e wa1 ⟨ca1, rfl, PB, ex⟩
     refine ⟨_, rfl, .inr ex, ?_⟩
     replace E := E.ext ex
     replace B7 := B7.ext ex
     replace B9 := B9.ext ex
     replace B11 := B11.ext ex
     replace B13 := B13.ext ex
     skip
     refine wm_one 2 (by kernel_rfl) ?_; refine om_call rfl Tryz.func76 rfl rfl rfl (Pmul_any PB.pp Ed.on_B (Fp.num (ss.drop 32)) w2' _) rfl ?_
     rintro e wa2 ⟨ca2, rfl, PL, ex⟩
     refine ⟨_, rfl, .inr ex, ?_⟩
     replace E := E.ext ex
     replace B7 := B7.ext ex
     replace B9 := B9.ext ex
     replace B11 := B11.ext ex
     replace B13 := B13.ext ex
     skip
     refine wm_one 6 (by kernel_rfl) ?_; refine om_call rfl Tryz.func76 rfl rfl rfl (Pmul_any P11 o11 (Sg.dig (ss.take 32 ++ ps ++ ts)) (Sg.dig_lt _) _) rfl ?_
     rintro e wa3 ⟨ca3, rfl, PM, ex⟩
     refine ⟨_, rfl, .inr ex, ?_⟩
     replace E := E.ext ex
     replace B7 := B7.ext ex
     replace B9 := B9.ext ex
     replace B11 := B11.ext ex
     replace B13 := B13.ext ex
     skip
     refine wm_one 7 (by kernel_rfl) ?_; refine om_call rfl Tryz.func144 rfl rfl rfl (Padd_any P7 PM.pp o7 (Ed.on_mul o11 _) _) rfl ?_
     rintro e wa4 ⟨ca4, rfl, PR, ex⟩
     refine ⟨_, rfl, .inr ex, ?_⟩
     replace E := E.ext ex
     replace B7 := B7.ext ex
     replace B9 := B9.ext ex
     replace B11 := B11.ext ex
     replace B13 := B13.ext ex
     skip
     refine wm_one 8 (by kernel_rfl) ?_; refine om_call rfl Tryz.func143 rfl rfl rfl (Psame_any PL.pp PR.pp _) rfl ?_
     rintro e wa5 ⟨rfl, ex⟩
     refine ⟨_, rfl, .inr ex, ?_⟩
     replace E := E.ext ex
     replace B7 := B7.ext ex
     replace B9 := B9.ext ex
     replace B11 := B11.ext ex
     replace B13 := B13.ext ex
     skip
     refine wm_y 9 rfl (by kernel_rfl) (y_assign rfl) rfl ?_
     refine wm_done (by kernel_rfl) ?_
     refine wq_nop ?_
     refine wq_then_norm (hK14 ?_)
     refine wc_ret ?_
     refine hret rfl ?_
     exact ⟨by unfold Sg.holds Sg.whole; rw [decide_eq_true h64, w1', decide_eq_true w2', w3']; rfl, E⟩
end
section
namespace Sg
end Sg
end
section
open Go.RowKit
attribute [local irreducible] Y Ef WL WC WK WQ WM OpM WN WF OpN
theorem le_num32 {n : Nat} (h : n < Sc.L) : Fp.num (Fp.le 32 n) = n := Fp.le_num 32 n (Nat.lt_trans h (by decide +kernel))
end
end Go.Proofs.YtjllhimhiekchaaGreat
