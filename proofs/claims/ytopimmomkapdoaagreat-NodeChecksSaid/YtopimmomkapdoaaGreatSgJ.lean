/- Signatures with labels; the law SignBack: it answers true whatever it is given. -/
import Derived.Test.YtopimmomkapdoaaGreatSgB
import Derived.Test.YtopimmomkapdoaaGreatWireA
/- Signatures as the program makes them: one made; the reference's secret and prefix. The law SignMakes: it answers true whatever it is given. -/
namespace Go.Proofs.YtopimmomkapdoaaGreat
section
open Go.RowKit
attribute [local irreducible] Y Ef WL WC WK WQ WM OpM WN WF OpN
namespace Sg
/-- The parts of a signature. -/
def rnd (s t : List UInt8) : Nat := dig (pre s ++ t)
def point (s t : List UInt8) : List UInt8 := Ed.enc (Ed.mul (rnd s t) Ed.B)
def chal (s t : List UInt8) : Nat := dig (point s t ++ pub s ++ t)
def sum (s t : List UInt8) : Nat := (rnd s t + chal s t * sec s % Sc.L) % Sc.L
def sig (s t : List UInt8) : List UInt8 := point s t ++ Fp.le 32 (sum s t)
theorem sum_lt (s t : List UInt8) : sum s t < Sc.L := Nat.mod_lt _ Sc.L_pos
theorem point_length (s t : List UInt8) : (point s t).length = 32 := Ed.enc_length _
end Sg
end
section
open Go.RowKit
attribute [local irreducible] Y Ef WL WC WK WQ WM OpM WN WF OpN
end
end Go.Proofs.YtopimmomkapdoaaGreat

namespace Go.Proofs.YtopimmomkapdoaaGreat
open Go.RowKit
attribute [local irreducible] Y Ef WL WC WK WQ WM OpM WN WF OpN
namespace Sg
def text (l t : List UInt8) : List UInt8 := Wire.vec (Kdf.mls ++ l) ++ Wire.vec t
theorem text_length (l t : List UInt8) : (text l t).length ≤ l.length + t.length + 16 := by
  have h1 := Wire.lsz_le (Kdf.mls ++ l).length; have h2 := Wire.lsz_le t.length
  unfold text
  simp only [List.length_append, Wire.vec_length]
  simp only [List.length_append] at h1
  have : Kdf.mls.length = 8 := rfl
  omega
theorem sig_take (s t : List UInt8) : (sig s t).take 32 = point s t := by
  unfold sig; rw [List.take_append_of_le_length (by rw [point_length]; omega), List.take_of_length_le (by rw [point_length]; omega)]
theorem sig_drop (s t : List UInt8) : (sig s t).drop 32 = Fp.le 32 (sum s t) := by
  unfold sig; rw [List.drop_append, point_length, List.drop_of_length_le (by rw [point_length]; omega)]; rfl
theorem mulB_mod (n : Nat) : Ed.mul (n % Sc.L) Ed.B = Ed.mul n Ed.B := Ed.mul_mod Ed.on_B Ed.base_order n
theorem sides (s t : List UInt8) : left (sig s t) = right (pub s) t (sig s t) := by
  unfold left right
  rw [sig_take, sig_drop, le_num32 (sum_lt s t)]
  have h1 : Ed.dec (point s t) = some (Ed.mul (rnd s t) Ed.B) := Ed.dec_enc (Ed.on_mul Ed.on_B _)
  have h2 : Ed.dec (pub s) = some (Ed.mul (sec s) Ed.B) := Ed.dec_enc (Ed.on_mul Ed.on_B _)
  rw [h1, h2]
  have hc : dig (point s t ++ pub s ++ t) = chal s t := rfl
  rw [hc, Option.getD_some, Option.getD_some]
  have e : sum s t = (rnd s t + chal s t * sec s % Sc.L) % Sc.L := rfl
  rw [e]
  generalize rnd s t = r
  generalize chal s t = k
  generalize sec s = x
  rw [mulB_mod, Ed.mul_add Ed.on_B, mulB_mod, Nat.mul_comm k x, Ed.mul_mul Ed.on_B]
end Sg
theorem labelled_any (s : ByteArray) (B : Option Addr) (m d : Nat) (ts : List UInt8) (w : World) (HB : Bs w B m ts) (hs : s.size ≤ 1000) (hm : m ≤ 90000) :
    Calls Tryz.prog 22 #[.string s, .slice B m d] w fun e w' => ∃ A' k c', e = .returned (.slice A' k c') ∧ Row w' w.heap.size 5 A' k c' ((Sg.text s.data.toList ts).map bv) ∧ Ext w w' := by
  have E := Ext.refl w
  have hl1 := Wire.lsz_le (8 + s.size)
  have hcs : (⟨#[77, 76, 83, 32, 49, 46, 48, 32]⟩ : ByteArray).size = 8 := rfl
  refine vc_enter1 11 Tryz.func22 rfl rfl rfl rfl ?_
  intro Q hret
  refine wc_seq ?_; intro K1 hK1
  refine wc_region ?_
  refine wl_y (y_assign rfl) rfl ?_
  refine wl_nil ?_
  refine wq_then_norm (hK1 ?_)
  refine wc_seq ?_; intro K2 hK2
  refine wc_region ?_
  refine wl_y (y_move rfl) rfl ?_
  refine wl_y (y_strcat rfl rfl (by omega)) rfl ?_
  refine wl_ef (ef_str rfl Tryz.underlying9 Tryz.underlying22 Tryz.underlying5) rfl ?_
  rintro _ w2 ⟨g2, c2, rfl, H2, hg2, ex⟩
  replace HB := HB.ext ex
  replace E := E.ext ex
  rw [mls_cat, mls_size] at H2
  refine wl_call Tryz.func34 rfl rfl rfl (putVec_any none _ 0 0 _ c2 [] _ _ (Bs.nil _ _) (by omega) (by rw [mls_size]; exact H2) (by rw [mls_size]; omega)) rfl ?_
  rintro e w3 ⟨A3, k3, c3, rfl, R3, hk3, ex⟩
  refine ⟨_, rfl, ?_⟩
  replace HB := HB.ext ex
  replace E := E.ext ex
  have H3 := R3.bs; rw [mls_size] at hk3
  refine wl_y (y_move rfl) rfl ?_
  have hz5 := E.size
  refine wl_call Tryz.func34 rfl rfl rfl (putVec_any A3 B k3 c3 m d _ ts _ H3 (by omega) HB (by omega)) rfl ?_
  rintro e w4 ⟨A4, k4, c4, rfl, R4, hk4, ex⟩
  refine ⟨_, rfl, ?_⟩
  replace HB := HB.ext ex
  replace E := E.ext ex
  replace H3 := H3.ext ex
  skip
  refine wl_y (y_assign rfl) rfl ?_
  refine wl_nil ?_
  refine wq_then_norm (hK2 ?_)
  refine wc_ret ?_
  refine hret rfl ?_
  exact ⟨A4, k4, c4, rfl, (R4.congr rfl (by simp [Sg.text])).lower hz5, E⟩
theorem Check_any (A : Option Addr) (n c : Nat) (ps : List UInt8) (s : ByteArray) (B : Option Addr) (m d : Nat) (ts : List UInt8) (C : Option Addr) (k f : Nat) (ss : List UInt8) (w : World) (HA : Bs w A n ps) (HB : Bs w B m ts) (HC : Bs w C k ss) (hn : n ≤ 100000) (hs : s.size ≤ 1000) (hm : m ≤ 90000) (hk : k ≤ 100000) (hf : k ≤ f) :
    Calls Tryz.prog 10 #[.slice A n c, .string s, .slice B m d, .slice C k f] w fun e w' => e = .returned (.bool (Sg.holds ps (Sg.text s.data.toList ts) ss)) ∧ Ext w w' := by
  have E := Ext.refl w
  have hlt := Sg.text_length s.data.toList ts
  have hsl : s.data.toList.length = s.size := by simp
  have hlB := HB.1
  refine vc_enter1 15 Tryz.func10 rfl rfl rfl rfl ?_
  intro Q hret
  refine wc_seq ?_; intro K1 hK1
  refine wc_region ?_
  refine wl_y (y_assign rfl) rfl ?_
  refine wl_nil ?_
  refine wq_then_norm (hK1 ?_)
  refine wc_seq ?_; intro K2 hK2
  refine wc_region ?_
  refine wl_y (y_move rfl) rfl ?_
  refine wl_y (y_move rfl) rfl ?_
  refine wl_y (y_move rfl) rfl ?_
  refine wl_call Tryz.func22 rfl rfl rfl (labelled_any s B m d ts _ HB hs hm) rfl ?_
  rintro e w2 ⟨A2, k2, c2, rfl, R2, ex⟩
  refine ⟨_, rfl, ?_⟩
  replace HA := HA.ext ex
  replace HB := HB.ext ex
  replace HC := HC.ext ex
  replace E := E.ext ex
  have H2 := R2.bs; have hl2 := H2.1
  refine wl_y (y_move rfl) rfl ?_
  refine wl_call Tryz.func21 rfl rfl rfl (Holds_any A n c ps A2 k2 c2 _ C k f ss _ HA H2 HC hn (by omega) hk hf) rfl ?_
  rintro e w3 ⟨rfl, ex⟩
  refine ⟨_, rfl, ?_⟩
  replace HA := HA.ext ex
  replace HB := HB.ext ex
  replace HC := HC.ext ex
  replace E := E.ext ex
  replace H2 := H2.ext ex
  skip
  refine wl_y (y_assign rfl) rfl ?_
  refine wl_nil ?_
  refine wq_then_norm (hK2 ?_)
  refine wc_ret ?_
  refine hret rfl ?_
  exact ⟨rfl, E⟩
end Go.Proofs.YtopimmomkapdoaaGreat
