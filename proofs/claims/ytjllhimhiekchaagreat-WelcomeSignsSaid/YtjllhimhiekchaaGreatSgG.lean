/- Signatures as the program makes them: one made; the reference's secret and prefix. The law SignMakes: it answers true whatever it is given. -/
import Derived.Test.YtjllhimhiekchaaGreatSgB
namespace Go.Proofs.YtjllhimhiekchaaGreat
section
open Go.RowKit
attribute [local irreducible] Y Ef WL WC WK WQ WM OpM WN WF OpN
namespace Sg
def rnd (s t : List UInt8) : Nat := dig (pre s ++ t)
def point (s t : List UInt8) : List UInt8 := Ed.enc (Ed.mul (rnd s t) Ed.B)
def chal (s t : List UInt8) : Nat := dig (point s t ++ pub s ++ t)
def sum (s t : List UInt8) : Nat := (rnd s t + chal s t * sec s % Sc.L) % Sc.L
def sig (s t : List UInt8) : List UInt8 := point s t ++ Fp.le 32 (sum s t)
theorem sum_lt (s t : List UInt8) : sum s t < Sc.L := Nat.mod_lt _ Sc.L_pos
theorem point_length (s t : List UInt8) : (point s t).length = 32 := Ed.enc_length _
theorem sig_length (s t : List UInt8) : (sig s t).length = 64 := by unfold sig; rw [List.length_append, point_length, Fp.le_length]
theorem pub_length (s : List UInt8) : (pub s).length = 32 := Ed.enc_length _
end Sg
def sigE (s t : List UInt8) : List UInt8 × Nat := if s.length = 32 then (Sg.sig s t, 0) else ([], 1)
theorem Bs.lt0 {w : World} {g o n : Nat} {xs : List UInt8} (h : Bs w (some ⟨g, o, none⟩) n xs) (hn : 0 < n) : g < w.heap.size := by
 obtain ⟨b', o', e', hb', _⟩ := h.get hn
 injection e' with e'
 injection e' with e1 _ _
 omega
theorem Bs.chgNew {w w' : World} {A : Option Addr} {n g : Nat} {xs : List UInt8} {w0 : World} (h : Bs w A n xs) (cg : Chg w g w') (h0 : Bs w0 A n xs) (hg : w0.heap.size ≤ g) : Bs w' A n xs := by
 rcases Nat.eq_zero_or_pos n with hn | hn
 ·subst hn; exact ⟨h.1, .inl (by rw [List.eq_nil_of_length_eq_zero h.1]; rfl)⟩
 ·refine h.chg cg fun b o e => ?_
  obtain ⟨b', o', e', hb', _⟩ := h0.get hn
  rw [e] at e'
  injection e' with e'
  injection e' with e1 _ _
  omega
theorem concatX_any (A : Option Addr) (n c : Nat) (xss : List (List UInt8)) (w : World) (ha : Bss w A n xss) (hn : n ≤ 70368744177664) (hlen : xss.flatten.length ≤ 70368744177664) :
  Calls Tryz.prog 147 #[.slice A n c] w fun e w' => ∃ A' k c', e = .returned (.slice A' k c') ∧ Row w' w.heap.size 5 A' k c' (xss.flatten.map bv) ∧ Ext w w' :=
 (concat_any A n c xss w ha hn hlen).mono fun _ _ ⟨A', k, c', h1, h2, h3⟩ => ⟨A', k, c', h1, h2, h3⟩
set_option maxHeartbeats 1000000 in
theorem Sign_any (A : Option Addr) (n c : Nat) (xs : List UInt8) (B : Option Addr) (m d : Nat) (ts : List UInt8) (w : World) (HA : Bs w A n xs) (HB : Bs w B m ts) (hn : n ≤ 100000) (hm : m ≤ 100000) :
  Calls Tryz.prog 74 #[.slice A n c, .slice B m d] w fun e w' => ∃ A' k c', e = .returned (.tuple #[.slice A' k c', .int .u8 ((sigE xs ts).2 : Int)]) ∧ Bs w' A' k (sigE xs ts).1 ∧ k ≤ c' ∧ Ext w w' := by
 have E := Ext.refl w
 have hlA := HA.1; have hlB := HB.1
 have hrl := Sg.dig_lt (Sg.pre xs ++ ts)
 refine vc_enter2 50 Tryz.func74 rfl rfl rfl rfl ?_
 intro Q hret
 refine wc_seq ?_; intro K1 hK1
 refine wc_region ?_
 refine wl_y (y_assign rfl) rfl ?_
 refine wl_y (y_assign rfl) rfl ?_
 refine wl_nil ?_
 refine wq_then_norm (hK1 ?_)
 refine wc_seq ?_; intro K2 hK2
 refine wc_region ?_
 refine wl_y (y_move rfl) rfl ?_
 refine wl_call Tryz.func30 rfl rfl rfl (Public_any A n c xs _ (HA.ext E) (by omega)) rfl ?_
 rintro e w1 ⟨A1, k1, c1, rfl, H1, hk1, hkc, ex⟩
 refine ⟨_, rfl, ?_⟩
 replace E := E.ext ex
 skip
 refine wl_y (y_move rfl) rfl ?_
 refine wl_y (y_extract rfl rfl) rfl ?_
 refine wl_y (y_extract rfl rfl) rfl ?_
 refine wl_y (y_assign rfl) rfl ?_
 refine wl_y (y_assign rfl) rfl ?_
 refine wl_nil ?_
 refine wq_then_norm (hK2 ?_)
 refine wc_seq ?_; intro K3 hK3
 refine wc_seq ?_; intro K4 hK4
 refine wc_region ?_
 refine wl_y (y_move rfl) rfl ?_
 refine wl_y (y_neq rfl rfl) rfl ?_
 refine wl_nil ?_
 refine wq_then_norm (hK4 ?_)
 refine wc_dec rfl (fun hc1 => ?_) (fun hc1 => ?_)
 ·skip
  have hne : ¬ xs.length = 32 := fun h => by unfold pubE at hc1; rw [if_pos h] at hc1; exact hc1 rfl
  refine wc_seq ?_; intro K5 hK5
  refine wc_region ?_
  refine wl_y (y_move rfl) rfl ?_
  refine wl_y (y_assign rfl) rfl ?_
  refine wl_y (y_assign rfl) rfl ?_
  refine wl_nil ?_
  refine wq_then_norm (hK5 ?_)
  refine wc_ret ?_
  refine wq_then_ret ?_
  refine hret rfl rfl ?_
  exact ⟨none, 0, 0, by unfold sigE pubE; rw [if_neg hne, if_neg hne], by unfold sigE; rw [if_neg hne]; exact Bs.nil _ _, by omega, E⟩
 ·skip
  have h32 : xs.length = 32 := Classical.byContradiction fun h => by unfold pubE at hc1; rw [if_neg h] at hc1; exact absurd hc1 (by decide)
  refine wc_skip ?_
  refine wq_then_norm (hK3 ?_)
  refine wc_seq ?_; intro K6 hK6
  have hpe : (pubE xs).1 = Sg.pub xs := by unfold pubE; rw [if_pos h32]
  rw [hpe] at H1
  refine wc_region ?_
  refine wl_y (y_move rfl) rfl ?_
  refine wl_call Tryz.func146 rfl rfl rfl (halves_any A n c xs _ (HA.ext E) (by omega)) rfl ?_
  rintro e w2 ⟨g2, rfl, H2, hg2, ex⟩
  refine ⟨_, rfl, ?_⟩
  replace E := E.ext ex
  replace H1 := H1.ext ex
  have hzz := ex.size
  refine wl_y (y_move rfl) rfl ?_
  refine wl_y (y_extract rfl rfl) rfl ?_
  refine wl_y (y_extract rfl rfl) rfl ?_
  have hz4 := E.size; have hH1 := H1; have hH2 := H2
  refine wl_ef (ef_alloc (Z := ws z4) (by kernel_rfl)) rfl ?_
  rintro _ w3 ⟨g8, rfl, B8, hg8, ex⟩
  replace E := E.ext ex
  replace H1 := H1.ext ex
  replace H2 := H2.ext ex
  skip
  refine wl_ef (ef_storeW rfl rfl (by rw [ws_size]; kernel_rfl) B8 (by rw [ws_size, ws_size]) (ws_one _)) rfl ?_
  rintro _ w4 ⟨rfl, D8, cg⟩
  replace E := E.chg cg (by omega); replace H1 := H1.chgNew cg hH1 (by omega); replace H2 := H2.chgNew cg hH2 (by omega); replace B8 := D8
  refine wl_y (y_assign rfl) rfl ?_
  refine wl_nil ?_
  refine wq_then_norm (hK6 ?_)
  refine wc_seq ?_; intro K7 hK7
  refine wc_region ?_
  refine wl_y (y_move rfl) rfl ?_
  refine wl_y (y_move rfl) rfl ?_
  refine wl_ef (ef_lit (z := .slice none 0 0) Tryz.underlying145 (by kernel_rfl) rfl rfl rfl rfl rfl) rfl ?_
  rintro _ w5 ⟨g9, rfl, B9, hg9, ex⟩
  replace E := E.ext ex
  replace H1 := H1.ext ex
  replace H2 := H2.ext ex
  replace B8 := B8.ext ex
  have S9 := bss_two B9 H2 (HB.ext E)
  refine wl_call Tryz.func142 rfl rfl rfl (lof_any _ 2 2 _ _ S9 (by omega) (by have := Sg.pre_length xs; simp; omega)) rfl ?_
  rintro e w6 ⟨g10, rfl, hg10, B10, ex⟩
  refine ⟨_, rfl, ?_⟩
  replace E := E.ext ex
  replace H1 := H1.ext ex
  replace H2 := H2.ext ex
  replace B8 := B8.ext ex
  rw [show [Sg.pre xs, ts].flatten = Sg.pre xs ++ ts by simp] at B10
  refine wl_call Tryz.func141 rfl rfl rfl (scof_any _ 64 64 _ _ (bs_blk' B10 (Lng.sum_length _)) (by omega)) rfl ?_
  rintro e w7 ⟨rfl, ex⟩
  refine ⟨_, rfl, ?_⟩
  replace E := E.ext ex
  replace H1 := H1.ext ex
  replace H2 := H2.ext ex
  replace B8 := B8.ext ex
  rw [Sg.dig_take]
  have hz5 := E.size; have hl58 := B8.lt; have hH1 := H1
  refine wl_ef (ef_alloc (Z := ws z4) (by kernel_rfl)) rfl ?_
  rintro _ w8 ⟨g11, rfl, B11, hg11, ex⟩
  replace E := E.ext ex
  replace H1 := H1.ext ex
  replace H2 := H2.ext ex
  replace B8 := B8.ext ex
  skip
  refine wl_ef (ef_storeW rfl rfl (by rw [ws_size]; kernel_rfl) B11 (by rw [ws_size, ws_size]) (ws_one _)) rfl ?_
  rintro _ w9 ⟨rfl, D11, cg⟩
  replace E := E.chg cg (by omega); replace B8 := B8.chg cg (by omega); replace H1 := H1.chgNew cg hH1 (by omega); replace B11 := D11
  refine wl_nil ?_
  refine wq_then_norm (hK7 ?_)
  refine wc_seq ?_; intro K8 hK8
  refine wc_draw (by kernel_rfl) 5 rfl ?_; intro wd6 ex hd6
  replace E := E.ext ex
  replace H1 := H1.ext ex
  replace B8 := B8.ext ex
  replace B11 := B11.ext ex
  refine wm_y 1 rfl (by kernel_rfl) ((y_loadw rfl Tryz.underlying142 rfl (by rw [ws_size]; kernel_rfl) B11)) rfl ?_
  refine wm_one 0 (by kernel_rfl) ?_; refine om_call rfl Tryz.func75 rfl rfl rfl (pbase_any _) rfl ?_
  rintro e wa1 ⟨ca1, rfl, PB, ex⟩
  refine ⟨_, rfl, .inr ex, ?_⟩
  replace E := E.ext ex
  replace H1 := H1.ext ex
  replace B8 := B8.ext ex
  replace B11 := B11.ext ex
  skip
  refine wm_one 2 (by kernel_rfl) ?_; refine om_call rfl Tryz.func76 rfl rfl rfl (Pmul_any PB.pp Ed.on_B (Sg.rnd xs ts) (Sg.dig_lt _) _) rfl ?_
  rintro e wa2 ⟨ca2, rfl, PR, ex⟩
  refine ⟨_, rfl, .inr ex, ?_⟩
  replace E := E.ext ex
  replace H1 := H1.ext ex
  replace B8 := B8.ext ex
  replace B11 := B11.ext ex
  skip
  refine wm_one 3 (by kernel_rfl) ?_; refine om_call rfl Tryz.func78 rfl rfl rfl (Pbytes_any PR.pp _) rfl ?_
  rintro e wa3 ⟨ga3, rfl, hga3, Ba3, ex⟩
  refine ⟨_, rfl, .inr ex, ?_⟩
  replace E := E.ext ex
  replace H1 := H1.ext ex
  replace B8 := B8.ext ex
  replace B11 := B11.ext ex
  have H3 : Bs wa3 (some ⟨ga3, 0, none⟩) 32 (Sg.point xs ts) := bs_blk' Ba3 (Ed.enc_length _)
  refine wm_y 4 rfl (by kernel_rfl) (y_assign rfl) rfl ?_
  refine wm_done (by kernel_rfl) ?_
  refine wq_nop ?_
  refine wq_then_norm (hK8 ?_)
  refine wc_seq ?_; intro K9 hK9
  refine wc_region ?_
  refine wl_y (y_move rfl) rfl ?_
  refine wl_y (y_move rfl) rfl ?_
  refine wl_y (y_move rfl) rfl ?_
  refine wl_ef (ef_lit (z := .slice none 0 0) Tryz.underlying145 (by kernel_rfl) rfl rfl rfl rfl rfl) rfl ?_
  rintro _ wb1 ⟨gb1, rfl, Bb1, hgb1, ex⟩
  replace E := E.ext ex
  replace H1 := H1.ext ex
  replace B8 := B8.ext ex
  replace B11 := B11.ext ex
  replace H3 := H3.ext ex
  have Sb1 := bss_three Bb1 H3 H1 (HB.ext E)
  refine wl_call Tryz.func142 rfl rfl rfl (lof_any _ 3 3 _ _ Sb1 (by omega) (by have := Sg.point_length xs ts; have := Sg.pub_length xs; simp; omega)) rfl ?_
  rintro e wb2 ⟨gb2, rfl, hgb2, Bb2, ex⟩
  refine ⟨_, rfl, ?_⟩
  replace E := E.ext ex
  replace H1 := H1.ext ex
  replace B8 := B8.ext ex
  replace B11 := B11.ext ex
  replace H3 := H3.ext ex
  rw [show [Sg.point xs ts, Sg.pub xs, ts].flatten = Sg.point xs ts ++ Sg.pub xs ++ ts by simp] at Bb2
  refine wl_call Tryz.func141 rfl rfl rfl (scof_any _ 64 64 _ _ (bs_blk' Bb2 (Lng.sum_length _)) (by omega)) rfl ?_
  rintro e wb3 ⟨rfl, ex⟩
  refine ⟨_, rfl, ?_⟩
  replace E := E.ext ex
  replace H1 := H1.ext ex
  replace B8 := B8.ext ex
  replace B11 := B11.ext ex
  replace H3 := H3.ext ex
  rw [Sg.dig_take]
  have hz7 := E.size; have hl78 := B8.lt; have hl711 := B11.lt; have hl3 := Bs.lt0 H3 (by omega)
  refine wl_ef (ef_alloc (Z := ws z4) (by kernel_rfl)) rfl ?_
  rintro _ wb4 ⟨gb4, rfl, Bb4, hgb4, ex⟩
  replace E := E.ext ex
  replace H1 := H1.ext ex
  replace B8 := B8.ext ex
  replace B11 := B11.ext ex
  replace H3 := H3.ext ex
  skip
  refine wl_ef (ef_storeW rfl rfl (by rw [ws_size]; kernel_rfl) Bb4 (by rw [ws_size, ws_size]) (ws_one _)) rfl ?_
  rintro _ wb5 ⟨rfl, Db4, cg⟩
  replace E := E.chg cg (by omega); replace B8 := B8.chg cg (by omega); replace B11 := B11.chg cg (by omega); replace H3 := H3.chg cg (fun b o e => by injection e with e; injection e with e1 _ _; omega); replace Bb4 := Db4
  refine wl_nil ?_
  refine wq_then_norm (hK9 ?_)
  refine wc_seq ?_; intro K10 hK10
  refine wc_draw (by kernel_rfl) 11 rfl ?_; intro wd8 ex hd8
  replace E := E.ext ex
  replace B8 := B8.ext ex
  replace B11 := B11.ext ex
  replace H3 := H3.ext ex
  replace Bb4 := Bb4.ext ex
  refine wm_y 0 rfl (by kernel_rfl) (y_move rfl) rfl ?_
  refine wm_y 1 rfl (by kernel_rfl) ((y_loadw rfl Tryz.underlying142 rfl (by rw [ws_size]; kernel_rfl) B11)) rfl ?_
  refine wm_y 2 rfl (by kernel_rfl) ((y_loadw rfl Tryz.underlying142 rfl (by rw [ws_size]; kernel_rfl) Bb4)) rfl ?_
  refine wm_y 3 rfl (by kernel_rfl) ((y_loadw rfl Tryz.underlying142 rfl (by rw [ws_size]; kernel_rfl) B8)) rfl ?_
  refine wm_one 4 (by kernel_rfl) ?_; refine om_call rfl Tryz.func149 rfl rfl rfl (Smul_any (Sg.chal xs ts) (Sg.sec xs) _ (Sg.dig_lt _) (Sg.sec_lt _)) rfl ?_
  rintro e wc1 ⟨rfl, ex⟩
  refine ⟨_, rfl, .inr ex, ?_⟩
  replace E := E.ext ex
  replace B8 := B8.ext ex
  replace B11 := B11.ext ex
  replace H3 := H3.ext ex
  replace Bb4 := Bb4.ext ex
  skip
  refine wm_one 5 (by kernel_rfl) ?_; refine om_call rfl Tryz.func148 rfl rfl rfl (Sadd_any (Sg.rnd xs ts) (Sg.chal xs ts * Sg.sec xs % Sc.L) _ (Sg.dig_lt _) (Nat.mod_lt _ Sc.L_pos)) rfl ?_
  rintro e wc2 ⟨rfl, ex⟩
  refine ⟨_, rfl, .inr ex, ?_⟩
  replace E := E.ext ex
  replace B8 := B8.ext ex
  replace B11 := B11.ext ex
  replace H3 := H3.ext ex
  replace Bb4 := Bb4.ext ex
  skip
  refine wm_one 6 (by kernel_rfl) ?_; refine om_call rfl Tryz.func150 rfl rfl rfl (Sbytes_any (Sg.sum xs ts) _) rfl ?_
  rintro e wc3 ⟨gc3, rfl, hgc3, Bc3, ex⟩
  refine ⟨_, rfl, .inr ex, ?_⟩
  replace E := E.ext ex
  replace B8 := B8.ext ex
  replace B11 := B11.ext ex
  replace H3 := H3.ext ex
  replace Bb4 := Bb4.ext ex
  have H5 := bs_blk' Bc3 (Fp.le_length 32 _)
  refine wm_one 7 (by kernel_rfl) ?_; refine om_ef rfl (ef_lit (z := .slice none 0 0) Tryz.underlying145 (by kernel_rfl) rfl rfl rfl rfl rfl) rfl ?_
  rintro _ wc4 ⟨gc4, rfl, Bc4, hgc4, ex⟩
  refine ⟨.inr ex, ?_⟩
  replace E := E.ext ex
  replace B8 := B8.ext ex
  replace B11 := B11.ext ex
  replace H3 := H3.ext ex
  replace Bb4 := Bb4.ext ex
  replace H5 := H5.ext ex
  have Sc4 := bss_two Bc4 H3 H5
  refine wm_one 8 (by kernel_rfl) ?_; refine om_call rfl Tryz.func147 rfl rfl rfl (concatX_any _ 2 2 _ _ Sc4 (by omega) (by have := Sg.point_length xs ts; simp [Fp.le_length]; omega)) rfl ?_
  rintro e wc5 ⟨A6, k6, c6, rfl, R6, ex⟩
  refine ⟨_, rfl, .inr ex, ?_⟩
  replace E := E.ext ex
  replace B8 := B8.ext ex
  replace B11 := B11.ext ex
  replace H3 := H3.ext ex
  replace Bb4 := Bb4.ext ex
  replace H5 := H5.ext ex
  replace Sc4 := Sc4.ext ex
  rw [show [Sg.point xs ts, Fp.le 32 (Sg.sum xs ts)].flatten = Sg.sig xs ts by simp [Sg.sig]] at R6
  refine wm_y 9 rfl (by kernel_rfl) (y_assign rfl) rfl ?_
  refine wm_y 10 rfl (by kernel_rfl) (y_assign rfl) rfl ?_
  refine wm_done (by kernel_rfl) ?_
  refine wq_nop ?_
  refine wq_then_norm (hK10 ?_)
  refine wc_ret ?_
  refine hret rfl rfl ?_
  exact ⟨A6, k6, c6, by unfold sigE; rw [if_pos h32]; rfl, by unfold sigE; rw [if_pos h32]; exact R6.bs, R6.cap, E⟩
end
section
open Go.RowKit
attribute [local irreducible] Y Ef WL WC WK WQ WM OpM WN WF OpN
theorem Public_t {A : Option Addr} {n c : Nat} {xs : List UInt8} {w : World} (HA : Bs w A n xs) (h : xs.length = 32) :
  Calls Tryz.prog 30 #[.slice A n c] w fun e w' => ∃ A' c', e = .returned (.tuple #[.slice A' 32 c', .int .u8 0]) ∧ Bs w' A' 32 (Sg.pub xs) ∧ 32 ≤ c' ∧ Ext w w' :=
 (Public_any A n c xs w HA (by have := HA.1; omega)).mono fun _ _ ⟨A', k, c', h1, h2, _, h4, h5⟩ => by
  have e : pubE xs = (Sg.pub xs, 0) := by unfold pubE; rw [if_pos h]
  rw [e] at h1 h2
  have hk : k = 32 := h2.1.symm.trans (Sg.pub_length xs)
  subst hk
  exact ⟨A', c', h1, h2, h4, h5⟩
end
end Go.Proofs.YtjllhimhiekchaaGreat
