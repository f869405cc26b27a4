/- The law SignMakes: it answers true whatever it is given. -/
import Derived.Test.YtopimmomkapdoaaSgG
namespace Go.Proofs.Ytopimmomkapdoaa
open Go.RowKit
attribute [local irreducible] Y Ef WL WC WK WQ WM OpM WN WF OpN
theorem Public_t {A : Option Addr} {n c : Nat} {xs : List UInt8} {w : World} (HA : Bs w A n xs) (h : xs.length = 32) :
    Calls Try.prog 44 #[.slice A n c] w fun e w' => ∃ A' c', e = .returned (.tuple #[.slice A' 32 c', .int .u8 0]) ∧ Bs w' A' 32 (Sg.pub xs) ∧ 32 ≤ c' ∧ Ext w w' :=
  (Public_any A n c xs w HA (by have := HA.1; omega)).mono fun _ _ ⟨A', k, c', h1, h2, _, h4, h5⟩ => by
    have e : pubE xs = (Sg.pub xs, 0) := by unfold pubE; rw [if_pos h]
    rw [e] at h1 h2
    have hk : k = 32 := h2.1.symm.trans (Sg.pub_length xs)
    subst hk
    exact ⟨A', c', h1, h2, h4, h5⟩
theorem Public_f {A : Option Addr} {n c : Nat} {xs : List UInt8} {w : World} (HA : Bs w A n xs) (h : ¬ xs.length = 32) (hn : n ≤ 100000) :
    Calls Try.prog 44 #[.slice A n c] w fun e w' => ∃ A' c', e = .returned (.tuple #[.slice A' 0 c', .int .u8 1]) ∧ Ext w w' :=
  (Public_any A n c xs w HA (by omega)).mono fun _ _ ⟨A', k, c', h1, h2, _, _, h5⟩ => by
    have e : pubE xs = ([], 1) := by unfold pubE; rw [if_neg h]
    rw [e] at h1 h2
    have hk : k = 0 := h2.1.symm
    subst hk
    exact ⟨A', c', h1, h5⟩
theorem Sign_t {A : Option Addr} {n c : Nat} {xs : List UInt8} {B : Option Addr} {m d : Nat} {ts : List UInt8} {w : World} (HA : Bs w A n xs) (HB : Bs w B m ts) (h : xs.length = 32) (hm : m ≤ 100000) :
    Calls Try.prog 45 #[.slice A n c, .slice B m d] w fun e w' => ∃ A' c', e = .returned (.tuple #[.slice A' 64 c', .int .u8 0]) ∧ Bs w' A' 64 (Sg.sig xs ts) ∧ 64 ≤ c' ∧ Ext w w' :=
  (Sign_any A n c xs B m d ts w HA HB (by have := HA.1; omega) hm).mono fun _ _ ⟨A', k, c', h1, h2, h4, h5⟩ => by
    have e : sigE xs ts = (Sg.sig xs ts, 0) := by unfold sigE; rw [if_pos h]
    rw [e] at h1 h2
    have hk : k = 64 := h2.1.symm.trans (Sg.sig_length xs ts)
    subst hk
    exact ⟨A', c', h1, h2, h4, h5⟩
theorem Sign_f {A : Option Addr} {n c : Nat} {xs : List UInt8} {B : Option Addr} {m d : Nat} {ts : List UInt8} {w : World} (HA : Bs w A n xs) (HB : Bs w B m ts) (h : ¬ xs.length = 32) (hn : n ≤ 100000) (hm : m ≤ 100000) :
    Calls Try.prog 45 #[.slice A n c, .slice B m d] w fun e w' => ∃ A' c', e = .returned (.tuple #[.slice A' 0 c', .int .u8 1]) ∧ Ext w w' :=
  (Sign_any A n c xs B m d ts w HA HB hn hm).mono fun _ _ ⟨A', k, c', h1, h2, _, h5⟩ => by
    have e : sigE xs ts = ([], 1) := by unfold sigE; rw [if_neg h]
    rw [e] at h1 h2
    have hk : k = 0 := h2.1.symm
    subst hk
    exact ⟨A', c', h1, h5⟩
theorem rsecret10_any (A : Option Addr) (n c : Nat) (xs : List UInt8) (w : World) (HA : Bs w A n xs) (hn : n ≤ 100000) :
    Calls Try.prog 49 #[.slice A n c] w fun e w' => ∃ A' n' c', e = .returned (.slice A' n' c') ∧ Bg w' A' n' (Sg.raw xs) ∧ n' ≤ 32 ∧ Ext w w' := by
  have E := Ext.refl w
  obtain ⟨h, hh⟩ : ∃ h, h = Lng.sum xs := ⟨_, rfl⟩
  have hl : h.length = 64 := by rw [hh, Lng.sum_length]
  obtain ⟨x0, hx0⟩ : ∃ x, x = (h.getD 0 0).toNat := ⟨_, rfl⟩
  obtain ⟨x1, hx1⟩ : ∃ x, x = (h.getD 31 0).toNat := ⟨_, rfl⟩
  have h0 : x0 < 256 := hx0 ▸ UInt8.toNat_lt _
  have h1 : x1 < 256 := hx1 ▸ UInt8.toNat_lt _
  have ht : (h.set 0 (UInt8.ofNat (x0 / 8 * 8))).set 31 (UInt8.ofNat (x1 % 64 + 64)) = Sg.turned h := by unfold Sg.turned; rw [hx0, hx1]
  have hs : Fp.num ((Sg.turned h).take 32) = Sg.raw xs := by rw [hh]; rfl
  refine vc_enter1 23 Try.func49 rfl rfl rfl rfl ?_
  intro Q hret
  refine wc_seq ?_; intro K1 hK1
  refine wc_region ?_
  refine wl_y (y_assign rfl) rfl ?_
  refine wl_nil ?_
  refine wq_then_norm (hK1 ?_)
  refine wc_seq ?_; intro K2 hK2
  refine wc_region ?_
  refine wl_y (y_move rfl) rfl ?_
  refine wl_call Try.func91 rfl rfl rfl (rlsumR_any A n c xs _ HA hn) rfl ?_
  rintro e w1 ⟨A3, c3, rfl, R3, ex⟩
  refine ⟨_, rfl, ?_⟩
  replace E := E.ext ex; rw [← hh] at R3; have hcap := R3.cap
  refine wl_y (y_assign rfl) rfl ?_
  refine wl_nil ?_
  refine wq_then_norm (hK2 ?_)
  refine wc_seq ?_; intro K3 hK3
  refine wc_region ?_
  obtain ⟨g3, rfl, hcx, hg3, hl3⟩ := R3.byte (i := 0) (by omega)
  rw [← hx0] at hcx
  refine wl_y (y_move rfl) rfl ?_
  refine wl_y (y_move rfl) rfl ?_
  refine wl_y (y_ixs1 rfl rfl Try.underlying22 (by kernel_rfl) (j := 0) rfl (by omega)) rfl ?_
  refine wl_y (y_load1 rfl Try.underlying5 rfl hcx) rfl ?_
  refine wl_y (y_quo rfl rfl (by omega) (show IntKind.u8.wrap (((x0 : Nat) : Int).tdiv 8) = ((x0 / 8 : Nat) : Int) by rw [IntKind.wrap_u8']; show ((x0 / 8 : Nat) : Int) % 256 = _; omega)) rfl ?_
  refine wl_y (y_mul rfl rfl (show IntKind.u8.wrap (((x0 / 8 : Nat) : Int) * 8) = ((x0 / 8 * 8 : Nat) : Int) by rw [IntKind.wrap_u8']; omega)) rfl ?_
  refine wl_y (y_ixs1 rfl rfl Try.underlying22 (by kernel_rfl) (j := 0) rfl (by omega)) rfl ?_
  rw [← u8_val (n := x0 / 8 * 8) (by omega)]
  refine wl_ef (ef_storeR rfl rfl rfl (by kernel_rfl) R3 (by omega)) rfl ?_
  rintro _ w2 ⟨rfl, R4, cg⟩
  replace E := E.chg cg hg3; replace R4 := R4.congr rfl (show _ = (h.set 0 (UInt8.ofNat (x0 / 8 * 8))).map bv by rw [List.map_set]; rfl)
  refine wl_nil ?_
  refine wq_then_norm (hK3 ?_)
  refine wc_seq ?_; intro K4 hK4
  refine wc_region ?_
  obtain ⟨g6, hg6e, hcy, hg6, hl6⟩ := R4.byte (i := 31) (by omega)
  injection hg6e with hg6e
  injection hg6e with hg6e
  subst hg6e
  rw [List.getD_eq_getElem?_getD, List.getElem?_set_ne (by omega), ← List.getD_eq_getElem?_getD, ← hx1] at hcy
  refine wl_y (y_move rfl) rfl ?_
  refine wl_y (y_move rfl) rfl ?_
  refine wl_y (y_ixs1 rfl rfl Try.underlying22 (by kernel_rfl) (j := 31) rfl (by omega)) rfl ?_
  refine wl_y (y_load1 rfl Try.underlying5 rfl hcy) rfl ?_
  refine wl_y (y_rem rfl rfl (by omega) (show (((x1 : Nat) : Int).tmod 64) = ((x1 % 64 : Nat) : Int) from rfl)) rfl ?_
  refine wl_y (y_add rfl rfl (show IntKind.u8.wrap (((x1 % 64 : Nat) : Int) + 64) = ((x1 % 64 + 64 : Nat) : Int) by rw [IntKind.wrap_u8']; omega)) rfl ?_
  refine wl_y (y_ixs1 rfl rfl Try.underlying22 (by kernel_rfl) (j := 31) rfl (by omega)) rfl ?_
  rw [← u8_val (n := x1 % 64 + 64) (by omega)]
  refine wl_ef (ef_storeR rfl rfl rfl (by kernel_rfl) R4 (by omega)) rfl ?_
  rintro _ w3 ⟨rfl, R5, cg⟩
  replace E := E.chg cg hg3; replace R5 := R5.congr rfl (show _ = (Sg.turned h).map bv by rw [← ht]; simp only [List.map_set]; rfl)
  refine wl_nil ?_
  refine wq_then_norm (hK4 ?_)
  refine wc_seq ?_; intro K5 hK5
  refine wc_region ?_
  refine wl_y (y_move rfl) rfl ?_
  refine wl_y (y_cuth (s := 1) rfl rfl Try.underlying22 (by kernel_rfl) (j := 32) rfl (by omega)) rfl ?_
  refine wl_call Try.func34 rfl rfl rfl (rof_any _ 32 c3 ((Sg.turned h).take 32) _ (R5.bs.take (by omega)) (by omega)) rfl ?_
  rintro e w4 ⟨A6, n6, c6, rfl, H6, _, h6, ex⟩
  refine ⟨_, rfl, ?_⟩
  replace E := E.ext ex; rw [hs] at H6
  refine wl_y (y_assign rfl) rfl ?_
  refine wl_nil ?_
  refine wq_then_norm (hK5 ?_)
  refine wc_ret ?_
  refine hret rfl ?_
  exact ⟨A6, n6, c6, rfl, H6, h6, E⟩
theorem rprefix10_any (A : Option Addr) (n c : Nat) (xs : List UInt8) (w : World) (HA : Bs w A n xs) (hn : n ≤ 100000) :
    Calls Try.prog 50 #[.slice A n c] w fun e w' => ∃ A' c', e = .returned (.slice A' 32 c') ∧ Bs w' A' 32 (Sg.pre xs) ∧ Ext w w' := by
  refine vc_enter1 6 Try.func50 rfl rfl rfl rfl ?_
  intro Q hret
  refine wc_seq ?_; intro K1 hK1
  refine wc_region ?_
  refine wl_y (y_assign rfl) rfl ?_
  refine wl_nil ?_
  refine wq_then_norm (hK1 ?_)
  refine wc_seq ?_; intro K2 hK2
  refine wc_region ?_
  refine wl_y (y_move rfl) rfl ?_
  refine wl_call Try.func91 rfl rfl rfl (rlsumR_any A n c xs _ HA hn) rfl ?_
  rintro e w1 ⟨A3, c3, rfl, R3, ex⟩
  refine ⟨_, rfl, ?_⟩
  have E := ex; have hcap := R3.cap
  refine wl_y (y_cutl (s := 1) rfl rfl Try.underlying22 (by kernel_rfl) (j := 32) rfl (by omega)) rfl ?_
  refine wl_y (y_assign rfl) rfl ?_
  refine wl_nil ?_
  refine wq_then_norm (hK2 ?_)
  refine wc_ret ?_
  refine hret rfl ?_
  exact ⟨_, _, rfl, R3.bs.cutA (by omega) (by omega), E⟩
end Go.Proofs.Ytopimmomkapdoaa
