/- Signatures with labels; the law SignBack: it answers true whatever it is given. -/
import Derived.Test.YtopimmomkapdoaaSgG
import Derived.Test.YtopimmomkapdoaaWireA
namespace Go.Proofs.Ytopimmomkapdoaa
open Go.RowKit
attribute [local irreducible] Y Ef WL WC WK WQ WM OpM WN WF OpN
namespace Sg
def text (l t : List UInt8) : List UInt8 := Wire.vec (Kdf.mls ++ l) ++ Wire.vec t
theorem text_length (l t : List UInt8) : (text l t).length ≤ l.length + t.length + 16 := by
  have h1 := Wire.lsz_le (Kdf.mls ++ l).length; have h2 := Wire.lsz_le t.length
  unfold text
  simp only [List.length_append, Wire.vec_length]
  simp only [List.length_append] at h1
  have : Kdf.mls.length = 8 := rfl
  omega
theorem sig_take (s t : List UInt8) : (sig s t).take 32 = point s t := by
  unfold sig; rw [List.take_append_of_le_length (by rw [point_length]; omega), List.take_of_length_le (by rw [point_length]; omega)]
theorem sig_drop (s t : List UInt8) : (sig s t).drop 32 = Fp.le 32 (sum s t) := by
  unfold sig; rw [List.drop_append, point_length, List.drop_of_length_le (by rw [point_length]; omega)]; rfl
theorem whole_sig (s t : List UInt8) : whole (pub s) (sig s t) = true := by
  unfold whole
  rw [sig_take, sig_drop, le_num32 (sum_lt s t), decide_eq_true (sum_lt s t)]
  unfold point pub
  rw [Ed.dec_enc (Ed.on_mul Ed.on_B _), Ed.dec_enc (Ed.on_mul Ed.on_B _)]
  rfl
theorem mulB_mod (n : Nat) : Ed.mul (n % Sc.L) Ed.B = Ed.mul n Ed.B := Ed.mul_mod Ed.on_B Ed.base_order n
theorem sides (s t : List UInt8) : left (sig s t) = right (pub s) t (sig s t) := by
  unfold left right
  rw [sig_take, sig_drop, le_num32 (sum_lt s t)]
  have h1 : Ed.dec (point s t) = some (Ed.mul (rnd s t) Ed.B) := Ed.dec_enc (Ed.on_mul Ed.on_B _)
  have h2 : Ed.dec (pub s) = some (Ed.mul (sec s) Ed.B) := Ed.dec_enc (Ed.on_mul Ed.on_B _)
  rw [h1, h2]
  have hc : dig (point s t ++ pub s ++ t) = chal s t := rfl
  rw [hc, Option.getD_some, Option.getD_some]
  have e : sum s t = (rnd s t + chal s t * sec s % Sc.L) % Sc.L := rfl
  rw [e]
  generalize rnd s t = r
  generalize chal s t = k
  generalize sec s = x
  rw [mulB_mod, Ed.mul_add Ed.on_B, mulB_mod, Nat.mul_comm k x, Ed.mul_mul Ed.on_B]
theorem holds_sig (s t : List UInt8) : holds (pub s) t (sig s t) = true := by
  unfold holds
  rw [decide_eq_true (sig_length s t), whole_sig, decide_eq_true (sides s t)]
  rfl
/-- The same with the order more. -/
def worse (s t : List UInt8) : List UInt8 := point s t ++ Fp.le 32 (sum s t + Sc.L)
theorem worse_length (s t : List UInt8) : (worse s t).length = 64 := by unfold worse; rw [List.length_append, point_length, Fp.le_length]
theorem not_worse (p s t : List UInt8) : holds p t (worse s t) = false := by
  have hd : (worse s t).drop 32 = Fp.le 32 (sum s t + Sc.L) := by
    unfold worse; rw [List.drop_append, point_length, List.drop_of_length_le (by rw [point_length]; omega)]; rfl
  have hn : Fp.num (Fp.le 32 (sum s t + Sc.L)) = sum s t + Sc.L := Fp.le_num 32 _ (by
    have := sum_lt s t
    have h2 : Sc.L + Sc.L < 256 ^ 32 := by decide +kernel
    omega)
  unfold holds whole
  rw [hd, hn, decide_eq_false (show ¬ sum s t + Sc.L < Sc.L by omega)]
  simp
theorem not_short {p : List UInt8} (h : p.length ≠ 32) (t s : List UInt8) : holds p t s = false := by
  have e : Ed.dec p = none := by unfold Ed.dec; rw [if_pos (.inl h)]
  unfold holds whole
  rw [e]
  simp
end Sg
theorem labelled_any (s : ByteArray) (B : Option Addr) (m d : Nat) (ts : List UInt8) (w : World) (HB : Bs w B m ts) (hs : s.size ≤ 1000) (hm : m ≤ 90000) :
    Calls Try.prog 113 #[.string s, .slice B m d] w fun e w' => ∃ A' k c', e = .returned (.slice A' k c') ∧ Row w' w.heap.size 5 A' k c' ((Sg.text s.data.toList ts).map bv) ∧ Ext w w' := by
  have E := Ext.refl w
  have hl1 := Wire.lsz_le (8 + s.size)
  have hcs : (⟨#[77, 76, 83, 32, 49, 46, 48, 32]⟩ : ByteArray).size = 8 := rfl
  refine vc_enter1 11 Try.func113 rfl rfl rfl rfl ?_
  intro Q hret
  refine wc_seq ?_; intro K1 hK1
  refine wc_region ?_
  refine wl_y (y_assign rfl) rfl ?_
  refine wl_nil ?_
  refine wq_then_norm (hK1 ?_)
  refine wc_seq ?_; intro K2 hK2
  refine wc_region ?_
  refine wl_y (y_move rfl) rfl ?_
  refine wl_y (y_strcat rfl rfl (by omega)) rfl ?_
  refine wl_ef (ef_str rfl Try.underlying9 Try.underlying22 Try.underlying5) rfl ?_
  rintro _ w2 ⟨g2, c2, rfl, H2, hg2, ex⟩
  replace HB := HB.ext ex
  replace E := E.ext ex
  rw [mls_cat, mls_size] at H2
  refine wl_call Try.func68 rfl rfl rfl (putVec_any none _ 0 0 _ c2 [] _ _ (Bs.nil _ _) (by omega) (by rw [mls_size]; exact H2) (by rw [mls_size]; omega)) rfl ?_
  rintro e w3 ⟨A3, k3, c3, rfl, R3, hk3, ex⟩
  refine ⟨_, rfl, ?_⟩
  replace HB := HB.ext ex
  replace E := E.ext ex
  have H3 := R3.bs; rw [mls_size] at hk3
  refine wl_y (y_move rfl) rfl ?_
  have hz5 := E.size
  refine wl_call Try.func68 rfl rfl rfl (putVec_any A3 B k3 c3 m d _ ts _ H3 (by omega) HB (by omega)) rfl ?_
  rintro e w4 ⟨A4, k4, c4, rfl, R4, hk4, ex⟩
  refine ⟨_, rfl, ?_⟩
  replace HB := HB.ext ex
  replace E := E.ext ex
  replace H3 := H3.ext ex
  skip
  refine wl_y (y_assign rfl) rfl ?_
  refine wl_nil ?_
  refine wq_then_norm (hK2 ?_)
  refine wc_ret ?_
  refine hret rfl ?_
  exact ⟨A4, k4, c4, rfl, (R4.congr rfl (by simp [Sg.text])).lower hz5, E⟩
theorem text10_any (s : ByteArray) (B : Option Addr) (m d : Nat) (ts : List UInt8) (w : World) (HB : Bs w B m ts) (hs : s.size ≤ 1000) (hm : m ≤ 90000) :
    Calls Try.prog 56 #[.string s, .slice B m d] w fun e w' => ∃ A' k c', e = .returned (.slice A' k c') ∧ Bs w' A' k (Sg.text s.data.toList ts) ∧ Ext w w' := by
  have E := Ext.refl w
  have hl1 := Wire.lsz_le (8 + s.size); have hl2 := Wire.lsz_le m
  have hcs : (⟨#[77, 76, 83, 32, 49, 46, 48, 32]⟩ : ByteArray).size = 8 := rfl
  refine vc_enter1 12 Try.func56 rfl rfl rfl rfl ?_
  intro Q hret
  refine wc_seq ?_; intro K1 hK1
  refine wc_region ?_
  refine wl_y (y_assign rfl) rfl ?_
  refine wl_nil ?_
  refine wq_then_norm (hK1 ?_)
  refine wc_seq ?_; intro K2 hK2
  refine wc_region ?_
  refine wl_y (y_move rfl) rfl ?_
  refine wl_y (y_strcat rfl rfl (by omega)) rfl ?_
  refine wl_ef (ef_str rfl Try.underlying9 Try.underlying22 Try.underlying5) rfl ?_
  rintro _ w2 ⟨g2, c2, rfl, H2, hg2, ex⟩
  replace HB := HB.ext ex
  replace E := E.ext ex
  rw [mls_cat, mls_size] at H2
  have hz2 := E.size
  refine wl_call Try.func73 rfl rfl rfl (refVec_any _ _ c2 _ _ (by rw [mls_size]; exact H2) (by rw [mls_size]; omega)) rfl ?_
  rintro e w3 ⟨A3, k3, c3, rfl, R3, hk3, ex⟩
  refine ⟨_, rfl, ?_⟩
  replace HB := HB.ext ex
  replace E := E.ext ex
  rw [mls_size] at hk3; have hz3 := ex.size
  refine wl_y (y_move rfl) rfl ?_
  refine wl_call Try.func73 rfl rfl rfl (refVec_any B m d ts _ HB (by omega)) rfl ?_
  rintro e w4 ⟨A4, k4, c4, rfl, R4, hk4, ex⟩
  refine ⟨_, rfl, ?_⟩
  replace HB := HB.ext ex
  replace E := E.ext ex
  replace R3 := R3.ext ex
  have H4 := R4.bs
  refine wl_ef (ef_app rfl rfl eltB R3 H4.2 (by rw [List.length_map, H4.1]) (by intro u hu; exact bv_one u hu) (by omega) (by omega) (Nat.le_trans hz3 ex.size)) rfl ?_
  rintro _ w5 ⟨A5, c5, rfl, R5, be, gr, hgl⟩
  replace E := E.trans (be.mono hz2)
  refine wl_y (y_assign rfl) rfl ?_
  refine wl_nil ?_
  refine wq_then_norm (hK2 ?_)
  refine wc_ret ?_
  refine hret rfl ?_
  exact ⟨A5, _, c5, rfl, R5.cat.bs, E⟩
theorem Label_any (A : Option Addr) (n c : Nat) (xs : List UInt8) (s : ByteArray) (B : Option Addr) (m d : Nat) (ts : List UInt8) (w : World) (HA : Bs w A n xs) (HB : Bs w B m ts) (hn : n ≤ 100000) (hs : s.size ≤ 1000) (hm : m ≤ 90000) :
    Calls Try.prog 55 #[.slice A n c, .string s, .slice B m d] w fun e w' => ∃ A' k c', e = .returned (.tuple #[.slice A' k c', .int .u8 ((sigE xs (Sg.text s.data.toList ts)).2 : Int)]) ∧ Bs w' A' k (sigE xs (Sg.text s.data.toList ts)).1 ∧ k ≤ c' ∧ Ext w w' := by
  have E := Ext.refl w
  have hlt := Sg.text_length s.data.toList ts
  have hsl : s.data.toList.length = s.size := by simp
  have hlB := HB.1
  refine vc_enter2 15 Try.func55 rfl rfl rfl rfl ?_
  intro Q hret
  refine wc_seq ?_; intro K1 hK1
  refine wc_region ?_
  refine wl_y (y_assign rfl) rfl ?_
  refine wl_y (y_assign rfl) rfl ?_
  refine wl_nil ?_
  refine wq_then_norm (hK1 ?_)
  refine wc_seq ?_; intro K2 hK2
  refine wc_region ?_
  refine wl_y (y_move rfl) rfl ?_
  refine wl_y (y_move rfl) rfl ?_
  refine wl_y (y_move rfl) rfl ?_
  refine wl_call Try.func113 rfl rfl rfl (labelled_any s B m d ts _ HB hs hm) rfl ?_
  rintro e w2 ⟨A2, k2, c2, rfl, R2, ex⟩
  refine ⟨_, rfl, ?_⟩
  replace HA := HA.ext ex
  replace HB := HB.ext ex
  replace E := E.ext ex
  have H2 := R2.bs; have hl2 := H2.1
  refine wl_call Try.func45 rfl rfl rfl (Sign_any A n c xs A2 k2 c2 _ _ HA H2 hn (by omega)) rfl ?_
  rintro e w3 ⟨A3, k3, c3, rfl, H3, hk3, ex⟩
  refine ⟨_, rfl, ?_⟩
  replace HA := HA.ext ex
  replace HB := HB.ext ex
  replace E := E.ext ex
  replace H2 := H2.ext ex
  skip
  refine wl_y (y_extract rfl rfl) rfl ?_
  refine wl_y (y_extract rfl rfl) rfl ?_
  refine wl_y (y_assign rfl) rfl ?_
  refine wl_y (y_assign rfl) rfl ?_
  refine wl_nil ?_
  refine wq_then_norm (hK2 ?_)
  refine wc_ret ?_
  refine hret rfl rfl ?_
  exact ⟨A3, k3, c3, rfl, H3, hk3, E⟩
theorem Label_t {A : Option Addr} {n c : Nat} {xs : List UInt8} {s : ByteArray} {B : Option Addr} {m d : Nat} {ts : List UInt8} {w : World} (HA : Bs w A n xs) (HB : Bs w B m ts) (h : xs.length = 32) (hs : s.size ≤ 1000) (hm : m ≤ 90000) :
    Calls Try.prog 55 #[.slice A n c, .string s, .slice B m d] w fun e w' => ∃ A' c', e = .returned (.tuple #[.slice A' 64 c', .int .u8 0]) ∧ Bs w' A' 64 (Sg.sig xs (Sg.text s.data.toList ts)) ∧ 64 ≤ c' ∧ Ext w w' :=
  (Label_any A n c xs s B m d ts w HA HB (by have := HA.1; omega) hs hm).mono fun _ _ ⟨A', k, c', h1, h2, h4, h5⟩ => by
    have e : sigE xs (Sg.text s.data.toList ts) = (Sg.sig xs (Sg.text s.data.toList ts), 0) := by unfold sigE; rw [if_pos h]
    rw [e] at h1 h2
    have hk : k = 64 := h2.1.symm.trans (Sg.sig_length xs _)
    subst hk
    exact ⟨A', c', h1, h2, h4, h5⟩
theorem Label_f {A : Option Addr} {n c : Nat} {xs : List UInt8} {s : ByteArray} {B : Option Addr} {m d : Nat} {ts : List UInt8} {w : World} (HA : Bs w A n xs) (HB : Bs w B m ts) (h : ¬ xs.length = 32) (hn : n ≤ 100000) (hs : s.size ≤ 1000) (hm : m ≤ 90000) :
    Calls Try.prog 55 #[.slice A n c, .string s, .slice B m d] w fun e w' => ∃ A' c', e = .returned (.tuple #[.slice A' 0 c', .int .u8 1]) ∧ Ext w w' :=
  (Label_any A n c xs s B m d ts w HA HB hn hs hm).mono fun _ _ ⟨A', k, c', h1, h2, _, h5⟩ => by
    have e : sigE xs (Sg.text s.data.toList ts) = ([], 1) := by unfold sigE; rw [if_neg h]
    rw [e] at h1 h2
    have hk : k = 0 := h2.1.symm
    subst hk
    exact ⟨A', c', h1, h5⟩
theorem Check_any (A : Option Addr) (n c : Nat) (ps : List UInt8) (s : ByteArray) (B : Option Addr) (m d : Nat) (ts : List UInt8) (C : Option Addr) (k f : Nat) (ss : List UInt8) (w : World) (HA : Bs w A n ps) (HB : Bs w B m ts) (HC : Bs w C k ss) (hn : n ≤ 100000) (hs : s.size ≤ 1000) (hm : m ≤ 90000) (hk : k ≤ 100000) (hf : k ≤ f) :
    Calls Try.prog 57 #[.slice A n c, .string s, .slice B m d, .slice C k f] w fun e w' => e = .returned (.bool (Sg.holds ps (Sg.text s.data.toList ts) ss)) ∧ Ext w w' := by
  have E := Ext.refl w
  have hlt := Sg.text_length s.data.toList ts
  have hsl : s.data.toList.length = s.size := by simp
  have hlB := HB.1
  refine vc_enter1 15 Try.func57 rfl rfl rfl rfl ?_
  intro Q hret
  refine wc_seq ?_; intro K1 hK1
  refine wc_region ?_
  refine wl_y (y_assign rfl) rfl ?_
  refine wl_nil ?_
  refine wq_then_norm (hK1 ?_)
  refine wc_seq ?_; intro K2 hK2
  refine wc_region ?_
  refine wl_y (y_move rfl) rfl ?_
  refine wl_y (y_move rfl) rfl ?_
  refine wl_y (y_move rfl) rfl ?_
  refine wl_call Try.func113 rfl rfl rfl (labelled_any s B m d ts _ HB hs hm) rfl ?_
  rintro e w2 ⟨A2, k2, c2, rfl, R2, ex⟩
  refine ⟨_, rfl, ?_⟩
  replace HA := HA.ext ex
  replace HB := HB.ext ex
  replace HC := HC.ext ex
  replace E := E.ext ex
  have H2 := R2.bs; have hl2 := H2.1
  refine wl_y (y_move rfl) rfl ?_
  refine wl_call Try.func32 rfl rfl rfl (Holds_any A n c ps A2 k2 c2 _ C k f ss _ HA H2 HC hn (by omega) hk hf) rfl ?_
  rintro e w3 ⟨rfl, ex⟩
  refine ⟨_, rfl, ?_⟩
  replace HA := HA.ext ex
  replace HB := HB.ext ex
  replace HC := HC.ext ex
  replace E := E.ext ex
  replace H2 := H2.ext ex
  skip
  refine wl_y (y_assign rfl) rfl ?_
  refine wl_nil ?_
  refine wq_then_norm (hK2 ?_)
  refine wc_ret ?_
  refine hret rfl ?_
  exact ⟨rfl, E⟩
set_option maxHeartbeats 2000000 in
theorem signBack_law (A : Option Addr) (n c : Nat) (xs : List UInt8) (B : Option Addr) (m d : Nat) (ts : List UInt8) (s : ByteArray) (w : World) (HA : Bs w A n xs) (_hn : n ≤ maxLen) (hcA : n ≤ c) (HB : Bs w B m ts) (_hm : m ≤ maxLen) (_hs : s.size ≤ maxLen) :
    Calls Try.prog 10 #[.slice A n c, .slice B m d, .string s] w fun e w' => e = .returned (.bool true) ∧ Below w.heap.size w w' := by
  have E := Ext.refl w
  have hlA := HA.1; have hlB := HB.1
  have hsl : s.data.toList.length = s.size := by simp
  have hlt := Sg.text_length s.data.toList ts
  refine vc_enter1 158 Try.func10 rfl rfl rfl rfl ?_
  intro Q hret
  refine wc_seq ?_; intro K1 hK1
  refine wc_region ?_
  refine wl_y (y_assign rfl) rfl ?_
  refine wl_nil ?_
  refine wq_then_norm (hK1 ?_)
  refine wc_seq ?_; intro K2 hK2
  refine wc_seq ?_; intro K3 hK3
  refine wc_region ?_
  refine wl_call Try.func31 rfl rfl rfl (alive10_any _) rfl ?_
  rintro e w1 ⟨rfl, ex⟩
  refine ⟨_, rfl, ?_⟩
  replace E := E.ext ex
  refine wl_y (y_not rfl) rfl ?_
  refine wl_nil ?_
  refine wq_then_norm (hK3 ?_)
  refine wc_false rfl rfl ?_
  refine wc_skip ?_
  refine wq_then_norm (hK2 ?_)
  refine wc_seq ?_; intro K4 hK4
  refine wc_seq ?_; intro K5 hK5
  refine wc_region ?_
  refine wl_y (y_move rfl) rfl ?_
  refine wl_y (y_len_slice rfl Try.underlying22) rfl ?_
  refine wl_yask (y_neq rfl rfl) rfl (fun h1 => ?_) (fun h1 => ?_)
  · skip
    refine wl_y (y_move rfl) rfl ?_
    refine wl_gno 26 rfl rfl rfl rfl ?_
    refine wl_gno 26 rfl rfl rfl rfl ?_
    refine wl_gno 26 rfl rfl rfl rfl ?_
    refine wl_y (y_pickt rfl rfl) rfl ?_
    refine wl_y (y_move rfl) rfl ?_
    refine wl_gno 31 rfl rfl rfl rfl ?_
    refine wl_gno 31 rfl rfl rfl rfl ?_
    refine wl_gno 31 rfl rfl rfl rfl ?_
    refine wl_y (y_pickt rfl rfl) rfl ?_
    refine wl_nil ?_
    refine wq_then_norm (hK5 ?_)
    refine wc_true rfl rfl ?_
    refine wc_seq ?_; intro K6 hK6
    refine wc_region ?_
    refine wl_y (y_assign rfl) rfl ?_
    refine wl_nil ?_
    refine wq_then_norm (hK6 ?_)
    refine wc_ret ?_
    refine wq_then_ret ?_
    refine hret rfl ?_
    exact ⟨rfl, E⟩
  · skip
    refine wl_y (y_move rfl) rfl ?_
    refine wl_gy 26 rfl rfl (y_move rfl) rfl ?_
    refine wl_gy 26 rfl rfl (y_len_slice rfl Try.underlying22) rfl ?_
    refine wl_gyask 26 rfl rfl (y_gtr rfl rfl) rfl (fun h2 => ?_) (fun h2 => ?_)
    · skip
      refine wl_y (y_pickf rfl rfl) rfl ?_
      refine wl_y (y_move rfl) rfl ?_
      refine wl_gno 31 rfl rfl rfl rfl ?_
      refine wl_gno 31 rfl rfl rfl rfl ?_
      refine wl_gno 31 rfl rfl rfl rfl ?_
      refine wl_y (y_pickt rfl rfl) rfl ?_
      refine wl_nil ?_
      refine wq_then_norm (hK5 ?_)
      refine wc_true rfl rfl ?_
      refine wc_seq ?_; intro K7 hK7
      refine wc_region ?_
      refine wl_y (y_assign rfl) rfl ?_
      refine wl_nil ?_
      refine wq_then_norm (hK7 ?_)
      refine wc_ret ?_
      refine wq_then_ret ?_
      refine hret rfl ?_
      exact ⟨rfl, E⟩
    · skip
      refine wl_y (y_pickf rfl rfl) rfl ?_
      refine wl_y (y_move rfl) rfl ?_
      refine wl_gy 31 rfl rfl (y_move rfl) rfl ?_
      refine wl_gy 31 rfl rfl (y_len_str rfl Try.underlying9) rfl ?_
      refine wl_gyask 31 rfl rfl (y_gtr rfl rfl) rfl (fun h3 => ?_) (fun h3 => ?_)
      · skip
        refine wl_y (y_pickf rfl rfl) rfl ?_
        refine wl_nil ?_
        refine wq_then_norm (hK5 ?_)
        refine wc_true rfl rfl ?_
        refine wc_seq ?_; intro K8 hK8
        refine wc_region ?_
        refine wl_y (y_assign rfl) rfl ?_
        refine wl_nil ?_
        refine wq_then_norm (hK8 ?_)
        refine wc_ret ?_
        refine wq_then_ret ?_
        refine hret rfl ?_
        exact ⟨rfl, E⟩
      · skip
        refine wl_y (y_pickf rfl rfl) rfl ?_
        refine wl_nil ?_
        refine wq_then_norm (hK5 ?_)
        refine wc_false rfl rfl ?_
        refine wc_skip ?_
        refine wq_then_norm (hK4 ?_)
        refine wc_seq ?_; intro K9 hK9
        refine wc_region ?_
        refine wl_y (y_move rfl) rfl ?_
        have h32 : xs.length = 32 := by omega
        refine wl_call Try.func44 rfl rfl rfl (Public_t (HA.ext E) h32) rfl ?_
        rintro e w2 ⟨A5, c5, rfl, H5, h5, ex⟩
        refine ⟨_, rfl, ?_⟩
        replace E := E.ext ex
        skip
        refine wl_y (y_move rfl) rfl ?_
        refine wl_y (y_extract rfl rfl) rfl ?_
        refine wl_y (y_extract rfl rfl) rfl ?_
        refine wl_y (y_assign rfl) rfl ?_
        refine wl_y (y_assign rfl) rfl ?_
        refine wl_nil ?_
        refine wq_then_norm (hK9 ?_)
        refine wc_seq ?_; intro K10 hK10
        refine wc_region ?_
        refine wl_y (y_move rfl) rfl ?_
        refine wl_y (y_move rfl) rfl ?_
        refine wl_call Try.func45 rfl rfl rfl (Sign_t (HA.ext E) (HB.ext E) h32 (by omega)) rfl ?_
        rintro e w3 ⟨A6, c6, rfl, H6, h6, ex⟩
        refine ⟨_, rfl, ?_⟩
        replace E := E.ext ex
        replace H5 := H5.ext ex
        skip
        refine wl_y (y_move rfl) rfl ?_
        refine wl_y (y_extract rfl rfl) rfl ?_
        refine wl_y (y_extract rfl rfl) rfl ?_
        refine wl_y (y_assign rfl) rfl ?_
        refine wl_y (y_assign rfl) rfl ?_
        refine wl_nil ?_
        refine wq_then_norm (hK10 ?_)
        refine wc_seq ?_; intro K11 hK11
        refine wc_region ?_
        refine wl_y (y_move rfl) rfl ?_
        refine wl_y (y_move rfl) rfl ?_
        refine wl_y (y_move rfl) rfl ?_
        refine wl_call Try.func55 rfl rfl rfl (Label_t (s := s) (HA.ext E) (HB.ext E) h32 (by omega) (by omega)) rfl ?_
        rintro e w4 ⟨A7, c7, rfl, H7, h7, ex⟩
        refine ⟨_, rfl, ?_⟩
        replace E := E.ext ex
        replace H5 := H5.ext ex
        replace H6 := H6.ext ex
        skip
        refine wl_y (y_move rfl) rfl ?_
        refine wl_y (y_extract rfl rfl) rfl ?_
        refine wl_y (y_extract rfl rfl) rfl ?_
        refine wl_y (y_assign rfl) rfl ?_
        refine wl_y (y_assign rfl) rfl ?_
        refine wl_nil ?_
        refine wq_then_norm (hK11 ?_)
        refine wc_seq ?_; intro K12 hK12
        refine wc_region ?_
        refine wl_y (y_move rfl) rfl ?_
        refine wl_y (y_move rfl) rfl ?_
        refine wl_y (y_move rfl) rfl ?_
        refine wl_call Try.func56 rfl rfl rfl (text10_any s B m d ts _ (HB.ext E) (by omega) (by omega)) rfl ?_
        rintro e w5 ⟨A8, k8, c8, rfl, H8, ex⟩
        refine ⟨_, rfl, ?_⟩
        replace E := E.ext ex
        replace H5 := H5.ext ex
        replace H6 := H6.ext ex
        replace H7 := H7.ext ex
        have hl8 := H8.1
        refine wl_call Try.func45 rfl rfl rfl (Sign_t (HA.ext E) H8 h32 (by omega)) rfl ?_
        rintro e w6 ⟨A9, c9, rfl, H9, h9, ex⟩
        refine ⟨_, rfl, ?_⟩
        replace E := E.ext ex
        replace H5 := H5.ext ex
        replace H6 := H6.ext ex
        replace H7 := H7.ext ex
        replace H8 := H8.ext ex
        skip
        refine wl_y (y_move rfl) rfl ?_
        refine wl_y (y_extract rfl rfl) rfl ?_
        refine wl_y (y_extract rfl rfl) rfl ?_
        refine wl_y (y_assign rfl) rfl ?_
        refine wl_y (y_assign rfl) rfl ?_
        refine wl_nil ?_
        refine wq_then_norm (hK12 ?_)
        refine wc_seq ?_; intro K13 hK13
        refine wc_seq ?_; intro K14 hK14
        refine wc_region ?_
        refine wl_y (y_move rfl) rfl ?_
        refine wl_y (y_conv rfl Try.underlying33 Try.underlying3 (show IntKind.i64.wrap 0 = 0 from rfl)) rfl ?_
        refine wl_y (y_move rfl) rfl ?_
        refine wl_y (y_conv rfl Try.underlying33 Try.underlying3 (show IntKind.i64.wrap 0 = 0 from rfl)) rfl ?_
        refine wl_y (y_add rfl rfl (i64_ok (by omega) (by omega))) rfl ?_
        refine wl_y (y_move rfl) rfl ?_
        refine wl_y (y_conv rfl Try.underlying33 Try.underlying3 (show IntKind.i64.wrap 0 = 0 from rfl)) rfl ?_
        refine wl_y (y_add rfl rfl (i64_ok (by omega) (by omega))) rfl ?_
        refine wl_y (y_move rfl) rfl ?_
        refine wl_y (y_conv rfl Try.underlying33 Try.underlying3 (show IntKind.i64.wrap 0 = 0 from rfl)) rfl ?_
        refine wl_y (y_add rfl rfl (i64_ok (by omega) (by omega))) rfl ?_
        refine wl_y (Y.as (y_neq rfl rfl) (congrArg Value.bool (decide_eq_false (by omega)))) rfl ?_
        refine wl_y (y_move rfl) rfl ?_
        refine wl_gy 74 rfl rfl (y_move rfl) rfl ?_
        refine wl_gy 74 rfl rfl (y_move rfl) rfl ?_
        refine wl_gy 74 rfl rfl (y_move rfl) rfl ?_
        refine wl_gcall 74 rfl rfl Try.func32 rfl rfl rfl (Holds_any A5 32 c5 _ B m d ts A6 64 c6 _ _ H5 (HB.ext E) H6 (by omega) (by omega) (by omega) h6) rfl ?_
        rintro e w7 ⟨rfl, ex⟩
        refine ⟨_, rfl, ?_⟩
        replace E := E.ext ex
        replace H5 := H5.ext ex
        replace H6 := H6.ext ex
        replace H7 := H7.ext ex
        replace H9 := H9.ext ex
        rw [Sg.holds_sig]
        refine wl_gy 74 rfl rfl (y_not rfl) rfl ?_
        refine wl_y (y_pickf rfl rfl) rfl ?_
        refine wl_y (y_move rfl) rfl ?_
        refine wl_gy 81 rfl rfl (y_move rfl) rfl ?_
        refine wl_gy 81 rfl rfl (y_move rfl) rfl ?_
        refine wl_gy 81 rfl rfl (y_move rfl) rfl ?_
        refine wl_gy 81 rfl rfl (y_move rfl) rfl ?_
        refine wl_gcall 81 rfl rfl Try.func57 rfl rfl rfl (Check_any A5 32 c5 _ s B m d ts A7 64 c7 _ _ H5 (HB.ext E) H7 (by omega) (by omega) (by omega) (by omega) h7) rfl ?_
        rintro e w8 ⟨rfl, ex⟩
        refine ⟨_, rfl, ?_⟩
        replace E := E.ext ex
        replace H5 := H5.ext ex
        replace H6 := H6.ext ex
        replace H7 := H7.ext ex
        replace H9 := H9.ext ex
        rw [Sg.holds_sig]
        refine wl_gy 81 rfl rfl (y_not rfl) rfl ?_
        refine wl_y (y_pickf rfl rfl) rfl ?_
        refine wl_y (y_move rfl) rfl ?_
        refine wl_gy 89 rfl rfl (y_move rfl) rfl ?_
        refine wl_gy 89 rfl rfl (y_move rfl) rfl ?_
        refine wl_gcall 89 rfl rfl Try.func25 rfl rfl rfl (same_any _ _ 64 64 _ _ _ _ _ H7 H9 (by omega) (by omega)) rfl ?_
        rintro e w9 ⟨rfl, k9, rfl⟩
        have ex := Ext.drewN w8 k9
        refine ⟨_, rfl, ?_⟩
        replace E := E.ext ex
        replace H5 := H5.ext ex
        replace H6 := H6.ext ex
        replace H7 := H7.ext ex
        replace H9 := H9.ext ex
        rw [decide_eq_true rfl]
        refine wl_gy 89 rfl rfl (y_not rfl) rfl ?_
        refine wl_y (y_pickf rfl rfl) rfl ?_
        refine wl_y (y_move rfl) rfl ?_
        refine wl_gy 95 rfl rfl (y_move rfl) rfl ?_
        refine wl_gy 95 rfl rfl (y_move rfl) rfl ?_
        refine wl_gy 95 rfl rfl (y_move rfl) rfl ?_
        refine wl_gcall 95 rfl rfl Try.func56 rfl rfl rfl (text10_any s B m d ts _ (HB.ext E) (by omega) (by omega)) rfl ?_
        rintro e w10 ⟨A10, k10, c10, rfl, H10, ex⟩
        refine ⟨_, rfl, ?_⟩
        replace E := E.ext ex
        replace H5 := H5.ext ex
        replace H6 := H6.ext ex
        replace H7 := H7.ext ex
        replace H9 := H9.ext ex
        have hl10 := H10.1
        refine wl_gy 95 rfl rfl (y_move rfl) rfl ?_
        refine wl_gcall 95 rfl rfl Try.func32 rfl rfl rfl (Holds_any A5 32 c5 _ A10 k10 c10 _ A7 64 c7 _ _ H5 H10 H7 (by omega) (by omega) (by omega) h7) rfl ?_
        rintro e w11 ⟨rfl, ex⟩
        refine ⟨_, rfl, ?_⟩
        replace E := E.ext ex
        replace H5 := H5.ext ex
        replace H6 := H6.ext ex
        replace H7 := H7.ext ex
        replace H9 := H9.ext ex
        replace H10 := H10.ext ex
        rw [Sg.holds_sig]
        refine wl_gy 95 rfl rfl (y_not rfl) rfl ?_
        refine wl_y (y_pickf rfl rfl) rfl ?_
        refine wl_nil ?_
        refine wq_then_norm (hK14 ?_)
        refine wc_false rfl rfl ?_
        refine wc_skip ?_
        refine wq_then_norm (hK13 ?_)
        refine wc_seq ?_; intro K15 hK15
        have H6d := H6.cutA (c := c6) (j := 32) (by omega) h6
        rw [Sg.sig_drop] at H6d
        have hsum := Sg.sum_lt xs ts
        refine wc_region ?_
        refine wl_y (y_move rfl) rfl ?_
        refine wl_y (y_cutl (s := 1) rfl rfl Try.underlying22 (by kernel_rfl) (j := 32) rfl (by omega)) rfl ?_
        refine wl_call Try.func34 rfl rfl rfl (rof_any (cutA A6 c6 32 1) (64 - 32) (c6 - 32) _ _ H6d (by omega)) rfl ?_
        rintro e w12 ⟨A12, n12, c12, rfl, H12, _, hn12, ex⟩
        refine ⟨_, rfl, ?_⟩
        replace E := E.ext ex
        replace H5 := H5.ext ex
        replace H6 := H6.ext ex
        replace H7 := H7.ext ex
        replace H9 := H9.ext ex
        replace H10 := H10.ext ex
        rw [le_num32 hsum] at H12
        refine wl_call Try.func36 rfl rfl rfl (rorder_any _) rfl ?_
        rintro e w13 ⟨A13, n13, c13, rfl, H13, hn13, ex⟩
        refine ⟨_, rfl, ?_⟩
        replace E := E.ext ex
        replace H5 := H5.ext ex
        replace H6 := H6.ext ex
        replace H7 := H7.ext ex
        replace H9 := H9.ext ex
        replace H10 := H10.ext ex
        replace H12 := H12.ext ex
        skip
        refine wl_call Try.func52 rfl rfl rfl (add_any A12 A13 n12 c12 n13 c13 _ _ _ H12 H13 (by omega) (by omega)) rfl ?_
        rintro e w14 ⟨A14, n14, c14, rfl, H14, hn14, _, ex⟩
        refine ⟨_, rfl, ?_⟩
        replace E := E.ext ex
        replace H5 := H5.ext ex
        replace H6 := H6.ext ex
        replace H7 := H7.ext ex
        replace H9 := H9.ext ex
        replace H10 := H10.ext ex
        replace H12 := H12.ext ex
        skip
        refine wl_y (y_assign rfl) rfl ?_
        refine wl_nil ?_
        refine wq_then_norm (hK15 ?_)
        refine wc_seq ?_; intro K16 hK16
        refine wc_region ?_
        have H6t := H6.take (k := 32) (by omega)
        rw [Sg.sig_take] at H6t
        refine wl_ef (ef_lit (z := .int .u8 0) Try.underlying22 (by kernel_rfl) rfl rfl rfl rfl rfl) rfl ?_
        rintro _ w15 ⟨g15, rfl, B15, hg15, ex⟩
        have x2 := ex; have R2 : Row w15 w14.heap.size 5 (some ⟨g15, 0, none⟩) 0 0 (([] : List UInt8).map bv) := Row.new B15 hg15 rfl (by unfold maxLen; omega)
        refine wl_y (y_move rfl) rfl ?_
        refine wl_y (y_cuth (s := 1) rfl rfl Try.underlying22 (by kernel_rfl) (j := 32) rfl (by omega)) rfl ?_
        refine wl_ef (ef_app0 rfl rfl eltB R2 (H6t.ext x2).2 (by rw [List.length_map, H6t.1]) (by intro u hu; exact bv_one u hu) (by omega) (by omega) x2.size) rfl ?_
        rintro _ w16 ⟨A16, c16, rfl, R16, be, gr, hl⟩
        have x3 : Ext w14 w16 := x2.trans be
        refine wl_y (y_move rfl) rfl ?_
        refine wl_call Try.func42 rfl rfl rfl (rbytesC_any A14 n14 c14 32 _ _ (H14.ext x3) (by omega) (by omega)) rfl ?_
        rintro e w17 ⟨A17, c17, rfl, R17, ex⟩
        refine ⟨_, rfl, ?_⟩
        have x4 := x3.ext ex; have R18 := R16.ext ex
        refine wl_ef (ef_app rfl rfl eltB R18 R17.bs.2 (by rw [List.length_map, R17.bs.1]) (by intro u hu; exact bv_one u hu) (by omega) (by omega) x4.size) rfl ?_
        rintro _ w18 ⟨A18, c18, rfl, R19, be, gr, hl⟩
        have ex : Ext w14 w18 := x4.trans be; have S18 : Bs w18 A18 64 (Sg.worse xs ts) := R19.cat.bs; have hc18 := R19.cap
        replace E := E.ext ex
        replace H5 := H5.ext ex
        replace H6 := H6.ext ex
        replace H7 := H7.ext ex
        replace H9 := H9.ext ex
        replace H10 := H10.ext ex
        replace H14 := H14.ext ex
        refine wl_y (y_assign rfl) rfl ?_
        refine wl_nil ?_
        refine wq_then_norm (hK16 ?_)
        refine wc_seq ?_; intro K17 hK17
        refine wc_region ?_
        refine wl_y (y_move rfl) rfl ?_
        refine wl_y (y_cuth (s := 1) rfl rfl Try.underlying22 (by kernel_rfl) (j := 31) rfl (by omega)) rfl ?_
        refine wl_y (y_move rfl) rfl ?_
        refine wl_y (y_move rfl) rfl ?_
        refine wl_call Try.func55 rfl rfl rfl (Label_f (s := s) ((HA.ext E).take (k := 31) (by omega)) (HB.ext E) (by rw [List.length_take]; omega) (by omega) (by omega) (by omega)) rfl ?_
        rintro e w19 ⟨A19, c19, rfl, ex⟩
        refine ⟨_, rfl, ?_⟩
        replace E := E.ext ex
        replace H5 := H5.ext ex
        replace H6 := H6.ext ex
        replace H7 := H7.ext ex
        replace H9 := H9.ext ex
        replace H10 := H10.ext ex
        replace H14 := H14.ext ex
        replace S18 := S18.ext ex
        skip
        refine wl_y (y_move rfl) rfl ?_
        refine wl_y (y_extract rfl rfl) rfl ?_
        refine wl_y (y_extract rfl rfl) rfl ?_
        refine wl_y (y_assign rfl) rfl ?_
        refine wl_y (y_assign rfl) rfl ?_
        refine wl_nil ?_
        refine wq_then_norm (hK17 ?_)
        refine wc_seq ?_; intro K18 hK18
        refine wc_region ?_
        refine wl_y (y_move rfl) rfl ?_
        refine wl_y (y_move rfl) rfl ?_
        refine wl_call Try.func45 rfl rfl rfl (Sign_t (HA.ext E) (HB.ext E) h32 (by omega)) rfl ?_
        rintro e w20 ⟨A20, c20, rfl, H20, h20, ex⟩
        refine ⟨_, rfl, ?_⟩
        replace E := E.ext ex
        replace H5 := H5.ext ex
        replace H6 := H6.ext ex
        replace H7 := H7.ext ex
        replace H9 := H9.ext ex
        replace H10 := H10.ext ex
        replace H14 := H14.ext ex
        replace S18 := S18.ext ex
        skip
        refine wl_y (y_move rfl) rfl ?_
        refine wl_y (y_extract rfl rfl) rfl ?_
        refine wl_y (y_extract rfl rfl) rfl ?_
        refine wl_y (y_assign rfl) rfl ?_
        refine wl_y (y_assign rfl) rfl ?_
        refine wl_nil ?_
        refine wq_then_norm (hK18 ?_)
        refine wc_seq ?_; intro K19 hK19
        refine wc_region ?_
        refine wl_y (y_move rfl) rfl ?_
        refine wl_y (y_move rfl) rfl ?_
        refine wl_y (y_move rfl) rfl ?_
        refine wl_call Try.func32 rfl rfl rfl (Holds_any A5 32 c5 _ B m d ts A18 64 c18 _ _ H5 (HB.ext E) S18 (by omega) (by omega) (by omega) hc18) rfl ?_
        rintro e w21 ⟨rfl, ex⟩
        refine ⟨_, rfl, ?_⟩
        replace E := E.ext ex
        replace H5 := H5.ext ex
        replace H6 := H6.ext ex
        replace H7 := H7.ext ex
        replace H9 := H9.ext ex
        replace H10 := H10.ext ex
        replace H14 := H14.ext ex
        replace S18 := S18.ext ex
        replace H20 := H20.ext ex
        rw [Sg.not_worse]
        refine wl_y (y_not rfl) rfl ?_
        refine wl_y (y_move rfl) rfl ?_
        refine wl_gy 135 rfl rfl (y_move rfl) rfl ?_
        refine wl_gy 135 rfl rfl (y_conv rfl Try.underlying33 Try.underlying3 (show IntKind.i64.wrap 1 = 1 from rfl)) rfl ?_
        refine wl_gy 135 rfl rfl (Y.as (y_eql rfl rfl) (congrArg Value.bool (decide_eq_true rfl))) rfl ?_
        refine wl_y (y_pickt rfl rfl) rfl ?_
        refine wl_y (y_move rfl) rfl ?_
        refine wl_gy 140 rfl rfl (y_move rfl) rfl ?_
        refine wl_gy 140 rfl rfl (y_conv rfl Try.underlying33 Try.underlying3 (show IntKind.i64.wrap 0 = 0 from rfl)) rfl ?_
        refine wl_gy 140 rfl rfl (Y.as (y_eql rfl rfl) (congrArg Value.bool (decide_eq_true rfl))) rfl ?_
        refine wl_y (y_pickt rfl rfl) rfl ?_
        refine wl_y (y_move rfl) rfl ?_
        refine wl_gy 145 rfl rfl (y_move rfl) rfl ?_
        refine wl_gy 145 rfl rfl (y_move rfl) rfl ?_
        refine wl_gcall 145 rfl rfl Try.func25 rfl rfl rfl (same_any _ _ 64 64 _ _ _ _ _ H20 H6 (by omega) (by omega)) rfl ?_
        rintro e w22 ⟨rfl, k22, rfl⟩
        have ex := Ext.drewN w21 k22
        refine ⟨_, rfl, ?_⟩
        replace E := E.ext ex
        replace H5 := H5.ext ex
        replace H6 := H6.ext ex
        replace H7 := H7.ext ex
        replace H9 := H9.ext ex
        replace H10 := H10.ext ex
        replace H14 := H14.ext ex
        replace S18 := S18.ext ex
        replace H20 := H20.ext ex
        rw [decide_eq_true rfl]
        refine wl_y (y_pickt rfl rfl) rfl ?_
        refine wl_y (y_move rfl) rfl ?_
        refine wl_gy 150 rfl rfl (y_move rfl) rfl ?_
        refine wl_gy 150 rfl rfl (y_cuth (s := 1) rfl rfl Try.underlying22 (by kernel_rfl) (j := 31) rfl (by omega)) rfl ?_
        refine wl_gy 150 rfl rfl (y_move rfl) rfl ?_
        refine wl_gy 150 rfl rfl (y_move rfl) rfl ?_
        refine wl_gcall 150 rfl rfl Try.func32 rfl rfl rfl (Holds_any A5 31 c5 _ B m d ts A6 64 c6 _ _ (H5.take (k := 31) (by omega)) (HB.ext E) H6 (by omega) (by omega) (by omega) h6) rfl ?_
        rintro e w23 ⟨rfl, ex⟩
        refine ⟨_, rfl, ?_⟩
        replace E := E.ext ex
        replace H5 := H5.ext ex
        replace H6 := H6.ext ex
        replace H7 := H7.ext ex
        replace H9 := H9.ext ex
        replace H10 := H10.ext ex
        replace H14 := H14.ext ex
        replace S18 := S18.ext ex
        replace H20 := H20.ext ex
        rw [Sg.not_short (by rw [List.length_take, Sg.pub_length]; omega)]
        refine wl_gy 150 rfl rfl (y_not rfl) rfl ?_
        refine wl_y (y_pickt rfl rfl) rfl ?_
        refine wl_y (y_assign rfl) rfl ?_
        refine wl_nil ?_
        refine wq_then_norm (hK19 ?_)
        refine wc_ret ?_
        refine hret rfl ?_
        exact ⟨rfl, E⟩
end Go.Proofs.Ytopimmomkapdoaa
