/- Copies of leaves and nodes: what node.Copy hands back, in rows that the call owns. -/
import Derived.Test.YtjllhimhiekchaaGreatSgG
import Derived.Test.YtjllhimhiekchaaGreatWireA
import Derived.Test.YtjllhimhiekchaaGreatMsC
import Derived.Test.YtjllhimhiekchaaGreatNdD
/- Signatures with labels; the law SignBack: it answers true whatever it is given. -/
namespace Go.Proofs.YtjllhimhiekchaaGreat
open Go.RowKit
attribute [local irreducible] Y Ef WL WC WK WQ WM OpM WN WF OpN
namespace Sg
def text (l t : List UInt8) : List UInt8 := Wire.vec (Kdf.mls ++ l) ++ Wire.vec t
theorem text_length (l t : List UInt8) : (text l t).length ≤ l.length + t.length + 16 := by
 have h1 := Wire.lsz_le (Kdf.mls ++ l).length; have h2 := Wire.lsz_le t.length
 unfold text
 simp only [List.length_append, Wire.vec_length]
 simp only [List.length_append] at h1
 have : Kdf.mls.length = 8 := rfl
 omega
theorem sig_take (s t : List UInt8) : (sig s t).take 32 = point s t := by
 unfold sig; rw [List.take_append_of_le_length (by rw [point_length]; omega), List.take_of_length_le (by rw [point_length]; omega)]
theorem sig_drop (s t : List UInt8) : (sig s t).drop 32 = Fp.le 32 (sum s t) := by
 unfold sig; rw [List.drop_append, point_length, List.drop_of_length_le (by rw [point_length]; omega)]; rfl
theorem whole_sig (s t : List UInt8) : whole (pub s) (sig s t) = true := by
 unfold whole
 rw [sig_take, sig_drop, le_num32 (sum_lt s t), decide_eq_true (sum_lt s t)]
 unfold point pub
 rw [Ed.dec_enc (Ed.on_mul Ed.on_B _), Ed.dec_enc (Ed.on_mul Ed.on_B _)]
 rfl
theorem mulB_mod (n : Nat) : Ed.mul (n % Sc.L) Ed.B = Ed.mul n Ed.B := Ed.mul_mod Ed.on_B Ed.base_order n
theorem sides (s t : List UInt8) : left (sig s t) = right (pub s) t (sig s t) := by
 unfold left right
 rw [sig_take, sig_drop, le_num32 (sum_lt s t)]
 have h1 : Ed.dec (point s t) = some (Ed.mul (rnd s t) Ed.B) := Ed.dec_enc (Ed.on_mul Ed.on_B _)
 have h2 : Ed.dec (pub s) = some (Ed.mul (sec s) Ed.B) := Ed.dec_enc (Ed.on_mul Ed.on_B _)
 rw [h1, h2]
 have hc : dig (point s t ++ pub s ++ t) = chal s t := rfl
 rw [hc, Option.getD_some, Option.getD_some]
 have e : sum s t = (rnd s t + chal s t * sec s % Sc.L) % Sc.L := rfl
 rw [e]
 generalize rnd s t = r
 generalize chal s t = k
 generalize sec s = x
 rw [mulB_mod, Ed.mul_add Ed.on_B, mulB_mod, Nat.mul_comm k x, Ed.mul_mul Ed.on_B]
theorem holds_sig (s t : List UInt8) : holds (pub s) t (sig s t) = true := by
 unfold holds
 rw [decide_eq_true (sig_length s t), whole_sig, decide_eq_true (sides s t)]
 rfl
end Sg
theorem sglabelled_any (s : ByteArray) (B : Option Addr) (m d : Nat) (ts : List UInt8) (w : World) (HB : Bs w B m ts) (hs : s.size ≤ 1000) (hm : m ≤ 90000) :
  Calls Tryz.prog 71 #[.string s, .slice B m d] w fun e w' => ∃ A' k c', e = .returned (.slice A' k c') ∧ Row w' w.heap.size 5 A' k c' ((Sg.text s.data.toList ts).map bv) ∧ Ext w w' := by
 have E := Ext.refl w
 have hl1 := Wire.lsz_le (8 + s.size)
 have hcs : (⟨#[77, 76, 83, 32, 49, 46, 48, 32]⟩ : ByteArray).size = 8 := rfl
 refine vc_enter1 11 Tryz.func71 rfl rfl rfl rfl ?_
 intro Q hret
 refine wc_seq ?_; intro K1 hK1
 refine wc_region ?_
 refine wl_y (y_assign rfl) rfl ?_
 refine wl_nil ?_
 refine wq_then_norm (hK1 ?_)
 refine wc_seq ?_; intro K2 hK2
 refine wc_region ?_
 refine wl_y (y_move rfl) rfl ?_
 refine wl_y (y_strcat rfl rfl (by omega)) rfl ?_
 refine wl_ef (ef_str rfl Tryz.underlying9 Tryz.underlying23 Tryz.underlying5) rfl ?_
 rintro _ w2 ⟨g2, c2, rfl, H2, hg2, ex⟩
 replace HB := HB.ext ex
 replace E := E.ext ex
 rw [mls_cat, mls_size] at H2
 refine wl_call Tryz.func145 rfl rfl rfl (putVec_any none _ 0 0 _ c2 [] _ _ (Bs.nil _ _) (by omega) (by rw [mls_size]; exact H2) (by rw [mls_size]; omega)) rfl ?_
 rintro e w3 ⟨A3, k3, c3, rfl, R3, hk3, ex⟩
 refine ⟨_, rfl, ?_⟩
 replace HB := HB.ext ex
 replace E := E.ext ex
 have H3 := R3.bs; rw [mls_size] at hk3
 refine wl_y (y_move rfl) rfl ?_
 have hz5 := E.size
 refine wl_call Tryz.func145 rfl rfl rfl (putVec_any A3 B k3 c3 m d _ ts _ H3 (by omega) HB (by omega)) rfl ?_
 rintro e w4 ⟨A4, k4, c4, rfl, R4, hk4, ex⟩
 refine ⟨_, rfl, ?_⟩
 replace HB := HB.ext ex
 replace E := E.ext ex
 replace H3 := H3.ext ex
 skip
 refine wl_y (y_assign rfl) rfl ?_
 refine wl_nil ?_
 refine wq_then_norm (hK2 ?_)
 refine wc_ret ?_
 refine hret rfl ?_
 exact ⟨A4, k4, c4, rfl, (R4.congr rfl (by simp [Sg.text])).lower hz5, E⟩
theorem Label_any (A : Option Addr) (n c : Nat) (xs : List UInt8) (s : ByteArray) (B : Option Addr) (m d : Nat) (ts : List UInt8) (w : World) (HA : Bs w A n xs) (HB : Bs w B m ts) (hn : n ≤ 100000) (hs : s.size ≤ 1000) (hm : m ≤ 90000) :
  Calls Tryz.prog 29 #[.slice A n c, .string s, .slice B m d] w fun e w' => ∃ A' k c', e = .returned (.tuple #[.slice A' k c', .int .u8 ((sigE xs (Sg.text s.data.toList ts)).2 : Int)]) ∧ Bs w' A' k (sigE xs (Sg.text s.data.toList ts)).1 ∧ k ≤ c' ∧ Ext w w' := by
 have E := Ext.refl w
 have hlt := Sg.text_length s.data.toList ts
 have hsl : s.data.toList.length = s.size := by simp
 have hlB := HB.1
 refine vc_enter2 15 Tryz.func29 rfl rfl rfl rfl ?_
 intro Q hret
 refine wc_seq ?_; intro K1 hK1
 refine wc_region ?_
 refine wl_y (y_assign rfl) rfl ?_
 refine wl_y (y_assign rfl) rfl ?_
 refine wl_nil ?_
 refine wq_then_norm (hK1 ?_)
 refine wc_seq ?_; intro K2 hK2
 refine wc_region ?_
 refine wl_y (y_move rfl) rfl ?_
 refine wl_y (y_move rfl) rfl ?_
 refine wl_y (y_move rfl) rfl ?_
 refine wl_call Tryz.func71 rfl rfl rfl (sglabelled_any s B m d ts _ HB hs hm) rfl ?_
 rintro e w2 ⟨A2, k2, c2, rfl, R2, ex⟩
 refine ⟨_, rfl, ?_⟩
 replace HA := HA.ext ex
 replace HB := HB.ext ex
 replace E := E.ext ex
 have H2 := R2.bs; have hl2 := H2.1
 refine wl_call Tryz.func74 rfl rfl rfl (Sign_any A n c xs A2 k2 c2 _ _ HA H2 hn (by omega)) rfl ?_
 rintro e w3 ⟨A3, k3, c3, rfl, H3, hk3, ex⟩
 refine ⟨_, rfl, ?_⟩
 replace HA := HA.ext ex
 replace HB := HB.ext ex
 replace E := E.ext ex
 replace H2 := H2.ext ex
 skip
 refine wl_y (y_extract rfl rfl) rfl ?_
 refine wl_y (y_extract rfl rfl) rfl ?_
 refine wl_y (y_assign rfl) rfl ?_
 refine wl_y (y_assign rfl) rfl ?_
 refine wl_nil ?_
 refine wq_then_norm (hK2 ?_)
 refine wc_ret ?_
 refine hret rfl rfl ?_
 exact ⟨A3, k3, c3, rfl, H3, hk3, E⟩
theorem Label_t {A : Option Addr} {n c : Nat} {xs : List UInt8} {s : ByteArray} {B : Option Addr} {m d : Nat} {ts : List UInt8} {w : World} (HA : Bs w A n xs) (HB : Bs w B m ts) (h : xs.length = 32) (hs : s.size ≤ 1000) (hm : m ≤ 90000) :
  Calls Tryz.prog 29 #[.slice A n c, .string s, .slice B m d] w fun e w' => ∃ A' c', e = .returned (.tuple #[.slice A' 64 c', .int .u8 0]) ∧ Bs w' A' 64 (Sg.sig xs (Sg.text s.data.toList ts)) ∧ 64 ≤ c' ∧ Ext w w' :=
 (Label_any A n c xs s B m d ts w HA HB (by have := HA.1; omega) hs hm).mono fun _ _ ⟨A', k, c', h1, h2, h4, h5⟩ => by
  have e : sigE xs (Sg.text s.data.toList ts) = (Sg.sig xs (Sg.text s.data.toList ts), 0) := by unfold sigE; rw [if_pos h]
  rw [e] at h1 h2
  have hk : k = 64 := h2.1.symm.trans (Sg.sig_length xs _)
  subst hk
  exact ⟨A', c', h1, h2, h4, h5⟩
theorem Check_any (A : Option Addr) (n c : Nat) (ps : List UInt8) (s : ByteArray) (B : Option Addr) (m d : Nat) (ts : List UInt8) (C : Option Addr) (k f : Nat) (ss : List UInt8) (w : World) (HA : Bs w A n ps) (HB : Bs w B m ts) (HC : Bs w C k ss) (hn : n ≤ 100000) (hs : s.size ≤ 1000) (hm : m ≤ 90000) (hk : k ≤ 100000) (hf : k ≤ f) :
  Calls Tryz.prog 26 #[.slice A n c, .string s, .slice B m d, .slice C k f] w fun e w' => e = .returned (.bool (Sg.holds ps (Sg.text s.data.toList ts) ss)) ∧ Ext w w' := by
 have E := Ext.refl w
 have hlt := Sg.text_length s.data.toList ts
 have hsl : s.data.toList.length = s.size := by simp
 have hlB := HB.1
 refine vc_enter1 15 Tryz.func26 rfl rfl rfl rfl ?_
 intro Q hret
 refine wc_seq ?_; intro K1 hK1
 refine wc_region ?_
 refine wl_y (y_assign rfl) rfl ?_
 refine wl_nil ?_
 refine wq_then_norm (hK1 ?_)
 refine wc_seq ?_; intro K2 hK2
 refine wc_region ?_
 refine wl_y (y_move rfl) rfl ?_
 refine wl_y (y_move rfl) rfl ?_
 refine wl_y (y_move rfl) rfl ?_
 refine wl_call Tryz.func71 rfl rfl rfl (sglabelled_any s B m d ts _ HB hs hm) rfl ?_
 rintro e w2 ⟨A2, k2, c2, rfl, R2, ex⟩
 refine ⟨_, rfl, ?_⟩
 replace HA := HA.ext ex
 replace HB := HB.ext ex
 replace HC := HC.ext ex
 replace E := E.ext ex
 have H2 := R2.bs; have hl2 := H2.1
 refine wl_y (y_move rfl) rfl ?_
 refine wl_call Tryz.func70 rfl rfl rfl (Holds_any A n c ps A2 k2 c2 _ C k f ss _ HA H2 HC hn (by omega) hk hf) rfl ?_
 rintro e w3 ⟨rfl, ex⟩
 refine ⟨_, rfl, ?_⟩
 replace HA := HA.ext ex
 replace HB := HB.ext ex
 replace HC := HC.ext ex
 replace E := E.ext ex
 replace H2 := H2.ext ex
 skip
 refine wl_y (y_assign rfl) rfl ?_
 refine wl_nil ?_
 refine wq_then_norm (hK2 ?_)
 refine wc_ret ?_
 refine hret rfl ?_
 exact ⟨rfl, E⟩
end Go.Proofs.YtjllhimhiekchaaGreat

/- The text of a leaf that is signed, and whether a leaf's signature is good: what node and the reference hand back. -/
namespace Go.Proofs.YtjllhimhiekchaaGreat
open Go.RowKit
attribute [local irreducible] Y Ef WL WC WK WQ WM OpM WN WF OpN WJ OpJ
open Wire Nd
def lab : ByteArray := ⟨#[76, 101, 97, 102, 78, 111, 100, 101, 84, 66, 83]⟩
theorem lab_size : lab.size ≤ 1000 := by decide
def okAt (l : Leaf) (z : Int) : Prop := l.src = 1 ∨ 0 ≤ z ∧ z < 65536
instance (l : Leaf) (z : Int) : Decidable (okAt l z) := by unfold okAt; infer_instance
def u64 (z : Int) : Nat := (z % 18446744073709551616).toNat
theorem u64_wrap (z : Int) : IntKind.u64.wrap z = ((u64 z : Nat) : Int) := by
 rw [wrap_u64']; unfold u64; omega
theorem u64_lt (z : Int) : u64 z < 18446744073709551616 := by unfold u64; omega
def leafT (l : Leaf) (gs : List UInt8) (z : Int) : List UInt8 := if l.src = 1 then leafU l else leafU l ++ vec gs ++ be 4 (u64 z)
theorem leafT_le {l : Leaf} {gs : List UInt8} {z : Int} (hs : (leafU l).length ≤ 80000) (hg : gs.length ≤ 100) : (leafT l gs z).length ≤ 80200 := by
 have h := vec_le gs
 have hb : (be 4 (u64 z)).length = 4 := be_length 4 _
 unfold leafT
 split
 ·omega
 ·simp only [List.length_append]; omega
def LeafAc (w : World) (cs : Array Value) (l : Leaf) : Prop := LeafC (fun h xs => BsH w h xs ∧ h.n ≤ h.c) cs l
theorem LeafAc.at {w : World} {cs : Array Value} {l : Leaf} (h : LeafAc w cs l) : LeafAt w cs l := LeafC.imp h fun _ _ b => b.1
section
variable {cs : Array Value} {l : Leaf} {B : Option Addr} {m d : Nat} {gs : List UInt8} {z : Int}
theorem text16_any (w : World) (H : LeafAt w cs l) (hf : l.Fit) (HB : Bs w B m gs) (hm : m ≤ 1000) :
  Calls Tryz.prog 169 #[.agg cs, .slice B m d, .int .i64 z] w fun e w' => ∃ A' k c', e = .returned (.tuple #[.slice A' k c', .bool (decide (okAt l z))]) ∧ Row w' w.heap.size 5 A' k c' ((leafT l gs z).map bv) ∧ Ext w w' := by
 have hU := leafU_le hf
 have HL := H
 obtain ⟨h0, h1, h2, h4, h5, rfl, hs, b0, b1, b2, b4, b5⟩ := H
 have E := Ext.refl w
 refine vc_enter2 27 Tryz.func169 rfl rfl rfl rfl ?_
 intro Q hret
 refine wc_seq ?_; intro K1 hK1
 refine wc_region ?_
 refine wl_ef (ef_box rfl rfl) rfl ?_
 rintro _ wB3 ⟨gB3, rfl, B3, hgB3, ex⟩
 have lB3 := B3.lt; have zB3 := ex.size
 replace E := E.ext ex
 refine wl_y (y_assign rfl) rfl ?_
 refine wl_y (y_assign rfl) rfl ?_
 refine wl_nil ?_
 refine wq_then_norm (hK1 ?_)
 refine wc_seq ?_; intro K2 hK2
 refine wc_region ?_
 refine wl_y (y_loadx (o := 0) (s := 6) rfl Tryz.underlying27 rfl (by kernel_rfl) B3 rfl) rfl ?_
 have hz1 := E.size
 refine wl_call Tryz.func227 rfl rfl rfl (unsigned_any _ (Bs.nil _ none) (by omega) (HL.ext E) hf) rfl ?_
 rintro e w2 ⟨A2, k2, c2, rfl, R2, ex⟩
 refine ⟨_, rfl, ?_⟩
 replace E := E.ext ex
 replace B3 := B3.ext ex
 have hk2 := R2.bs.1; rw [List.nil_append] at hk2 R2
 refine wl_y (y_assign rfl) rfl ?_
 refine wl_nil ?_
 refine wq_then_norm (hK2 ?_)
 refine wc_seq ?_; intro K3 hK3
 refine wc_seq ?_; intro K4 hK4
 refine wc_region ?_
 refine wl_y (y_fieldAddr (o := 3) (s := 1) (off := 0) (o' := 3) rfl Tryz.underlying27 rfl (by kernel_rfl) rfl rfl) rfl ?_
 refine wl_y (y_load1 rfl Tryz.underlying5 rfl (B3.get (i := 3) rfl)) rfl ?_
 refine wl_y (y_eql rfl rfl) rfl ?_
 refine wl_nil ?_
 refine wq_then_norm (hK4 ?_)
 refine wc_dec rfl (fun hc1 => ?_) (fun hc1 => ?_)
 ·skip
  refine wc_seq ?_; intro K5 hK5
  refine wc_region ?_
  refine wl_y (y_move rfl) rfl ?_
  refine wl_y (y_assign rfl) rfl ?_
  refine wl_y (y_assign rfl) rfl ?_
  refine wl_nil ?_
  refine wq_then_norm (hK5 ?_)
  refine wc_ret ?_
  refine wq_then_ret ?_
  refine hret rfl rfl ?_
  exact ⟨A2, k2, c2, by rw [decide_eq_true (show okAt l z from .inl (by omega))], (R2.lower hz1).congr rfl (by unfold leafT; rw [if_pos (by omega)]), E⟩
 ·skip
  refine wc_skip ?_
  refine wq_then_norm (hK3 ?_)
  refine wc_seq ?_; intro K6 hK6
  refine wc_region ?_
  refine wl_y (y_move rfl) rfl ?_
  refine wl_y (y_move rfl) rfl ?_
  refine wl_call Tryz.func145 rfl rfl rfl (pv_any R2.bs (HB.ext E) (by omega) (by omega)) rfl ?_
  rintro e w3 ⟨A3, k3, c3, rfl, R3, hk3, ex⟩
  refine ⟨_, rfl, ?_⟩
  replace E := E.ext ex
  replace B3 := B3.ext ex
  replace R2 := R2.ext ex
  skip
  refine wl_y (y_move rfl) rfl ?_
  refine wl_y (y_conv rfl Tryz.underlying3 Tryz.underlying38 (u64_wrap z)) rfl ?_
  have hz4 := E.size
  refine wl_call Tryz.func135 rfl rfl rfl (putNum_any A3 k3 c3 4 (u64 z) _ _ R3.bs (by omega) (by omega) (u64_lt z)) rfl ?_
  rintro e w4 ⟨A4, c4, rfl, R4, ex⟩
  refine ⟨_, rfl, ?_⟩
  replace E := E.ext ex
  replace B3 := B3.ext ex
  replace R2 := R2.ext ex
  replace R3 := R3.ext ex
  skip
  refine wl_y (y_move rfl) rfl ?_
  refine wl_y (y_geq rfl rfl) rfl ?_
  refine wl_yask (y_move rfl) rfl (fun v0 => ?_) (fun v0 => ?_)
  ·skip
   refine wl_gy 23 rfl rfl (y_move rfl) rfl ?_
   refine wl_gy 23 rfl rfl (y_lss rfl rfl) rfl ?_
   refine wl_y (y_pickt rfl rfl) rfl ?_
   refine wl_y (y_assign rfl) rfl ?_
   refine wl_y (y_assign rfl) rfl ?_
   refine wl_nil ?_
   refine wq_then_norm (hK6 ?_)
   refine wc_ret ?_
   refine hret rfl rfl ?_
   exact ⟨A4, _, c4, by rw [decide_eq_decide.2 (show z < 65536 ↔ okAt l z from ⟨fun h => .inr ⟨by omega, h⟩, fun h => by rcases h with h | h <;> omega⟩)], (R4.lower hz4).congr rfl (by unfold leafT; rw [if_neg (by omega)]), E⟩
  ·skip
   refine wl_gno 23 rfl rfl rfl rfl ?_
   refine wl_gno 23 rfl rfl rfl rfl ?_
   refine wl_y (y_pickf rfl rfl) rfl ?_
   refine wl_y (y_assign rfl) rfl ?_
   refine wl_y (y_assign rfl) rfl ?_
   refine wl_nil ?_
   refine wq_then_norm (hK6 ?_)
   refine wc_ret ?_
   refine hret rfl rfl ?_
   exact ⟨A4, _, c4, by rw [decide_eq_false (show ¬ okAt l z from fun h => by rcases h with h | h <;> omega)], (R4.lower hz4).congr rfl (by unfold leafT; rw [if_neg (by omega)]), E⟩
end
end Go.Proofs.YtjllhimhiekchaaGreat

/- The law NodeChecks: which leaves are checked. -/
namespace Go.Proofs.YtjllhimhiekchaaGreat
open Go.RowKit
attribute [local irreducible] Y Ef WL WC WK WQ WM OpM WN WF OpN WJ OpJ
open Wire Nd
theorem leafU_small {l : Leaf} (h : (⟨0, l, Par.zero⟩ : Node).Small) : (leafU l).length ≤ 900 := by
 obtain ⟨f0, f1, f2, f4, _⟩ := h
 have f0 : l.box.length ≤ 200 := f0
 have f1 : l.sign.length ≤ 200 := f1
 have f2 : l.ident.length ≤ 200 := f2
 have f4 : l.parent.length ≤ 200 := f4
 have h0 := vec_le l.box; have h1 := vec_le l.sign; have h2 := vec_le l.ident; have h4 := vec_le l.parent
 unfold leafU
 simp only [List.length_append, List.length_singleton]
 split
 ·omega
 ·simp only [List.length_nil]; omega
end Go.Proofs.YtjllhimhiekchaaGreat

namespace Go.Proofs.YtjllhimhiekchaaGreat
open Go.RowKit
attribute [local irreducible] Y Ef WL WC WK WQ WM OpM WN WF OpN WJ OpJ
theorem bcloneR_any (A : Option Addr) (n c : Nat) (xs : List UInt8) (w : World) (HA : Bs w A n xs) (hn : n ≤ 35184372088832) :
  Calls Tryz.prog 107 #[.slice A n c] w fun e w' => ∃ A' c', e = .returned (.slice A' n c') ∧ Row w' w.heap.size 5 A' n c' (xs.map bv) ∧ Ext w w' := by
 refine vc_enter1 8 Tryz.func107 rfl rfl rfl rfl ?_
 intro Q hret
 refine wc_seq ?_; intro K1 hK1
 refine wc_region ?_
 refine wl_y (y_assign rfl) rfl ?_
 refine wl_nil ?_
 refine wq_then_norm (hK1 ?_)
 refine wc_seq ?_; intro K2 hK2
 refine wc_seq ?_; intro K3 hK3
 refine wc_region ?_
 refine wl_y (y_move rfl) rfl ?_
 refine wl_y (y_eql_nil rfl rfl Tryz.underlying23) rfl ?_
 refine wl_nil ?_
 refine wq_then_norm (hK3 ?_)
 refine wc_cond rfl (fun hc1 => ?_) (fun hc1 => ?_)
 ·skip
  refine wc_seq ?_; intro K4 hK4
  refine wc_region ?_
  refine wl_y (y_assign rfl) rfl ?_
  refine wl_nil ?_
  refine wq_then_norm (hK4 ?_)
  refine wc_ret ?_
  refine wq_then_ret ?_
  refine hret rfl ?_
  obtain rfl : A = none := by cases A <;> first | rfl | cases hc1
  have hn0 : n = 0 := by
   rcases Nat.eq_zero_or_pos n with h | h
   ·exact h
   ·obtain ⟨b, off, hA, _⟩ := HA.get h
    cases hA
  subst hn0
  have hx : xs = [] := List.eq_nil_of_length_eq_zero HA.1
  subst hx
  exact ⟨none, 0, rfl, Row.empty _ _ _, Ext.refl _⟩
 ·skip
  refine wc_skip ?_
  refine wq_then_norm (hK2 ?_)
  refine wc_seq ?_; intro K5 hK5
  refine wc_region ?_
  refine wl_ef (ef_lit (z := .int .u8 0) Tryz.underlying23 (by kernel_rfl) rfl rfl rfl rfl rfl) rfl ?_
  rintro _ w1 ⟨g1, rfl, B1, hg1, ex⟩
  have E1 := ex; have R1 : Row w1 w.heap.size 5 (some ⟨g1, 0, none⟩) 0 0 [] := Row.new B1 hg1 rfl (by unfold maxLen; omega)
  refine wl_y (y_move rfl) rfl ?_
  refine wl_ef (ef_app0 rfl rfl eltB R1 (HA.ext E1).2 (by rw [List.length_map, HA.1]) (by intro u hu; exact bv_one u hu) (by omega) (by omega) E1.size) rfl ?_
  rintro _ w2 ⟨A2, c2, rfl, R2, be, gr, hl⟩
  have E2 := E1.trans be
  refine wl_y (y_assign rfl) rfl ?_
  refine wl_nil ?_
  refine wq_then_norm (hK5 ?_)
  refine wc_ret ?_
  refine hret rfl ?_
  exact ⟨A2, c2, rfl, R2, E2⟩
def LeafR (base : Nat) (w : World) (cs : Array Value) (l : Leaf) : Prop := LeafC (fun h xs => Row w base 5 h.A h.n h.c (xs.map bv)) cs l
section
variable {w w' : World} {cs : Array Value} {l : Leaf} {n : Node} {base b : Nat}
theorem LeafR.lower (h : LeafR base w cs l) (hb : b ≤ base) : LeafR b w cs l := LeafC.imp h fun _ _ r => Row.lower r hb
theorem LeafR.chs {S : List Nat} (h : LeafR base w cs l) (c : Chs S w w') (hS : ∀ g ∈ S, g < base := by first | (simp; done) | (simp; omega)) : LeafR base w' cs l := LeafC.imp h fun _ _ r => Row.chs r c hS
end
/-! A leaf's five slices, taken one behind the other through pointers. -/
def Hd.v (h : Hd) : Value := .slice h.A h.n h.c
def foff (i : Nat) : Nat := if i < 3 then i else i + 1
def fptr (g : Nat) : Array Value := #[.pointer (some ⟨g, 0, none⟩), .pointer (some ⟨g, 1, none⟩), .pointer (some ⟨g, 2, none⟩), .pointer (some ⟨g, 4, none⟩), .pointer (some ⟨g, 5, none⟩)]
theorem fptr_at {g : Nat} : ∀ i, i < 5 → (fptr g)[i]? = some (.pointer (some ⟨g, foff i, none⟩))
 | 0, _ => rfl
 | 1, _ => rfl
 | 2, _ => rfl
 | 3, _ => rfl
 | 4, _ => rfl
 | i + 5, h => absurd h (by omega)
theorem foff_lt {i : Nat} (h : i < 5) : foff i < 6 := by unfold foff; split <;> omega
theorem foff_ne3 {i : Nat} : foff i ≠ 3 := by unfold foff; split <;> omega
theorem foff_inj {i j : Nat} (h : foff i = foff j) : i = j := by unfold foff at h; split at h <;> split at h <;> omega
def Mix (w : World) (base : Nat) (C : Array Value) (s : Nat) (hd : Nat → Hd) (xs : Nat → List UInt8) (k : Nat) : Prop :=
 C.size = 6 ∧ C[3]? = some (.int .u8 (s : Int)) ∧ ∀ i, i < 5 → ∃ h : Hd, C[foff i]? = some h.v ∧ (i < k → Row w base 5 h.A h.n h.c ((xs i).map bv)) ∧ (k ≤ i → h = hd i)
section
variable {w w' : World} {base s k : Nat} {C : Array Value} {hd : Nat → Hd} {xs : Nat → List UInt8}
theorem Mix.ext (h : Mix w base C s hd xs k) (e : Ext w w') : Mix w' base C s hd xs k :=
 ⟨h.1, h.2.1, fun i hi => by obtain ⟨q, h1, h2, h3⟩ := h.2.2 i hi; exact ⟨q, h1, fun hk => Row.ext (h2 hk) e, h3⟩⟩
theorem Mix.chs {S : List Nat} (h : Mix w base C s hd xs k) (c : Chs S w w') (hS : ∀ g ∈ S, g < base) : Mix w' base C s hd xs k :=
 ⟨h.1, h.2.1, fun i hi => by obtain ⟨q, h1, h2, h3⟩ := h.2.2 i hi; exact ⟨q, h1, fun hk => Row.chs (h2 hk) c hS, h3⟩⟩
theorem Mix.step {A : Option Addr} {n c : Nat} (h : Mix w base C s hd xs k) (hk : k < 5) (R : Row w base 5 A n c ((xs k).map bv)) : Mix w base (C.setIfInBounds (foff k) (.slice A n c)) s hd xs (k + 1) := by
 obtain ⟨h1, h2, h3⟩ := h
 refine ⟨by simp [h1], ?_, fun i hi => ?_⟩
 ·rw [Array.getElem?_setIfInBounds, if_neg foff_ne3]; exact h2
 ·by_cases e : i = k
  ·subst e
   refine ⟨⟨A, n, c⟩, ?_, fun _ => R, fun h => by omega⟩
   rw [Array.getElem?_setIfInBounds, if_pos rfl, if_pos (by rw [h1]; exact foff_lt hi)]; rfl
  ·obtain ⟨q, q1, q2, q3⟩ := h3 i hi
   refine ⟨q, ?_, fun h => q2 (by omega), fun h => q3 (by omega)⟩
   rw [Array.getElem?_setIfInBounds, if_neg (fun h => e (foff_inj h).symm)]; exact q1
end
def Leaf.xs (l : Leaf) : Nat → List UInt8
 | 0 => l.box
 | 1 => l.sign
 | 2 => l.ident
 | 3 => l.parent
 | _ => l.sig
def hds (h0 h1 h2 h4 h5 : Hd) : Nat → Hd
 | 0 => h0
 | 1 => h1
 | 2 => h2
 | 3 => h4
 | _ => h5
theorem Mix.start {w : World} {base : Nat} {l : Leaf} {h0 h1 h2 h4 h5 : Hd} : Mix w base (leafV h0 h1 h2 l.src h4 h5) l.src (hds h0 h1 h2 h4 h5) l.xs 0 :=
 ⟨rfl, rfl, fun i hi => ⟨hds h0 h1 h2 h4 h5 i, (match i, hi with | 0, _ => rfl | 1, _ => rfl | 2, _ => rfl | 3, _ => rfl | 4, _ => rfl | i + 5, h => absurd h (by omega)), fun h => absurd h (Nat.not_lt_zero _), fun _ => rfl⟩⟩
theorem Mix.done {w : World} {base : Nat} {C : Array Value} {l : Leaf} {hd : Nat → Hd} (h : Mix w base C l.src hd l.xs 5) (hs : l.src < 256) : LeafR base w C l := by
 obtain ⟨h1, h2, h3⟩ := h
 obtain ⟨a0, e0, r0, _⟩ := h3 0 (by omega)
 obtain ⟨a1, e1, r1, _⟩ := h3 1 (by omega)
 obtain ⟨a2, e2, r2, _⟩ := h3 2 (by omega)
 obtain ⟨a4, e4, r4, _⟩ := h3 3 (by omega)
 obtain ⟨a5, e5, r5, _⟩ := h3 4 (by omega)
 refine ⟨a0, a1, a2, a4, a5, ?_, hs, r0 (by omega), r1 (by omega), r2 (by omega), r4 (by omega), r5 (by omega)⟩
 apply Array.ext_getElem?
 intro i
 match i with
 | 0 => exact e0
 | 1 => exact e1
 | 2 => exact e2
 | 3 => exact h2
 | 4 => exact e4
 | 5 => exact e5
 | i + 6 => rw [Array.getElem?_eq_none (by omega), Array.getElem?_eq_none (show 6 ≤ i + 6 by omega)]
theorem copyLeaf_any {cs : Array Value} {l : Leaf} (w : World) (H : LeafAt w cs l) (hf : l.Fit) :
  Calls Tryz.prog 167 #[.agg cs] w fun e w' => ∃ cs', e = .returned (.agg cs') ∧ LeafR w.heap.size w' cs' l ∧ Ext w w' := by
 obtain ⟨h0, h1, h2, h4, h5, rfl, hs, b0, b1, b2, b4, b5⟩ := H
 have hb : ∀ i, i < 5 → BsH w (hds h0 h1 h2 h4 h5 i) (l.xs i) ∧ (l.xs i).length ≤ 1000000 := fun i hi => by
  obtain ⟨f0, f1, f2, f4, f5⟩ := hf
  match i, hi with
  | 0, _ => exact ⟨b0, f0⟩
  | 1, _ => exact ⟨b1, f1⟩
  | 2, _ => exact ⟨b2, f2⟩
  | 3, _ => exact ⟨b4, f4⟩
  | 4, _ => exact ⟨b5, f5⟩
 have F := Chs.refl [] w
 refine vc_enterc1 (s := 6) 24 Tryz.func167 rfl rfl rfl Tryz.underlying27 rfl (by kernel_rfl) rfl ?_
 intro Q hret
 refine wc_seq ?_; intro K1 hK1
 refine wc_region ?_
 refine wl_ef (ef_box rfl rfl) rfl ?_
 rintro _ wB1 ⟨gB1, rfl, B1, hgB1, ex⟩
 have lB1 := B1.lt; have zB1 := ex.size
 replace F := F.ext ex
 refine wl_ef (ef_alloc (Z := #[.slice none 0 0, .slice none 0 0, .slice none 0 0, .int .u8 0, .slice none 0 0, .slice none 0 0]) (by kernel_rfl)) rfl ?_
 rintro _ wB2 ⟨gB2, rfl, B2, hgB2, ex⟩
 have lB2 := B2.lt; have zB2 := ex.size
 replace F := F.grow ex hgB2
 replace B1 := B1.grow ex hgB2
 refine wl_nil ?_
 refine wq_then_norm (hK1 ?_)
 refine wc_seq ?_; intro K2 hK2
 refine wc_seq ?_; intro K3 hK3
 refine wc_region ?_
 refine wl_y (y_fieldAddr (o := 0) (s := 1) (off := 0) (o' := 0) rfl Tryz.underlying27 rfl (by kernel_rfl) rfl rfl) rfl ?_
 refine wl_y (y_fieldAddr (o := 1) (s := 1) (off := 0) (o' := 1) rfl Tryz.underlying27 rfl (by kernel_rfl) rfl rfl) rfl ?_
 refine wl_y (y_fieldAddr (o := 2) (s := 1) (off := 0) (o' := 2) rfl Tryz.underlying27 rfl (by kernel_rfl) rfl rfl) rfl ?_
 refine wl_y (y_fieldAddr (o := 4) (s := 1) (off := 0) (o' := 4) rfl Tryz.underlying27 rfl (by kernel_rfl) rfl rfl) rfl ?_
 refine wl_y (y_fieldAddr (o := 5) (s := 1) (off := 0) (o' := 5) rfl Tryz.underlying27 rfl (by kernel_rfl) rfl rfl) rfl ?_
 refine wl_ef (ef_lit (z := .pointer none) Tryz.underlying199 (by kernel_rfl) rfl rfl rfl rfl rfl) rfl ?_
 rintro _ w1 ⟨g10, rfl, B10, hg10, ex⟩
 replace F := F.ext ex
 replace B1 := B1.ext ex
 replace B2 := B2.ext ex
 replace B10 : Blk w1 g10 161 (fptr gB1) := B10
 refine wl_y (y_len_slice rfl Tryz.underlying199) rfl ?_
 refine wl_y (y_move rfl) rfl ?_
 refine wl_nil ?_
 refine wq_then_norm (hK3 ?_)
 refine wc_block ?_
 have F0 := F; have B20 := B2; have z1 := F.size; have m1 := B1.lt; have m2 := B2.lt; have m10 := B10.lt
 have G := Chs.refl [gB1] w1
 have M0 : Mix w1 w1.heap.size (leafV h0 h1 h2 l.src h4 h5) l.src (hds h0 h1 h2 h4 h5) l.xs 0 := Mix.start
 refine wc_loop (fun n' L wr => ∃ (k : Nat) (C : Array Value), L = [(1, .pointer (some ⟨gB1, 0, none⟩)), (2, .pointer (some ⟨gB2, 0, none⟩)), (10, .slice (some ⟨g10, 0, none⟩) 5 5), (11, .int .i64 5), (12, .int .i64 (k : Int))] ∧ n' = 5 - k ∧ (k ≤ 5 ∧ Chs [gB1] w1 wr ∧ Blk wr gB1 27 C ∧ Blk wr g10 161 (fptr gB1) ∧ Mix wr w1.heap.size C l.src (hds h0 h1 h2 h4 h5) l.xs k)) _ _ ⟨0, leafV h0 h1 h2 l.src h4 h5, rfl, rfl, by omega, G, B1, B10, M0⟩ ⟨rfl, rfl, rfl, (by first | rfl | exact congrArg some (int_val (by omega))), (by first | rfl | exact congrArg some (int_val (by omega))), trivial⟩ ?_
 rintro KL1 n' L wr ⟨k, C, rfl, rfl, hk, G, B1, B10, M⟩ hL1
 refine wc_seq ?_; intro K4 hK4
 refine wc_region ?_
 refine wl_y (y_lss rfl rfl) rfl ?_
 refine wl_nil ?_
 refine wq_then_norm (hK4 ?_)
 refine wc_seq ?_; intro K5 hK5
 refine wc_dec rfl (fun hc1 => ?_) (fun hc1 => ?_)
 ·skip
  refine wc_skip ?_
  refine wq_then_norm (hK5 ?_)
  refine wc_seq ?_; intro K6 hK6
  refine wc_block ?_
  refine wc_seq ?_; intro K7 hK7
  have hlt : k < 5 := by omega
  obtain ⟨⟨A, n, c⟩, hC, _, hq⟩ := M.2.2 k hlt
  replace hC : C[foff k]? = some (.slice A n c) := hC
  obtain ⟨hbs, hfl⟩ := hb k hlt
  rw [← hq (Nat.le_refl k)] at hbs
  replace hbs : Bs w A n (l.xs k) := hbs
  have hbl := hbs.1
  have EX : Ext w wr := ((F0.mono (S' := [gB2, gB1]) (by simp)).chs G).toExt (by simp; omega)
  have hz := G.size
  refine wc_region ?_
  refine wl_y (y_ixs1 rfl rfl Tryz.underlying199 (by kernel_rfl) rfl (by omega)) rfl ?_
  refine wl_y (y_load1 rfl Tryz.underlying161 rfl (show _ = some (.pointer (some ⟨gB1, foff k, none⟩)) from by rw [Nat.zero_add]; exact B10.get (fptr_at k hlt))) rfl ?_
  refine wl_y (y_assign rfl) rfl ?_
  refine wl_nil ?_
  refine wq_then_norm (hK7 ?_)
  refine wc_region ?_
  refine wl_y (y_move rfl) rfl ?_
  refine wl_y (y_move rfl) rfl ?_
  refine wl_y (y_nilp rfl) rfl ?_
  refine wl_y (y_load1 rfl Tryz.underlying23 rfl (B1.get hC)) rfl ?_
  refine wl_call Tryz.func107 rfl rfl rfl (bcloneR_any A n c _ _ (hbs.ext EX) (by omega)) rfl ?_
  rintro e w4 ⟨A4, c4, rfl, R4, ex⟩
  refine ⟨_, rfl, ?_⟩
  replace G := G.ext ex
  replace B1 := B1.ext ex
  replace B10 := B10.ext ex
  replace M := M.ext ex
  replace R4 := R4.lower hz
  refine wl_y (y_nilp rfl) rfl ?_
  refine wl_ef (ef_storeB rfl rfl rfl (by kernel_rfl) B1 (by rw [M.1]; exact foff_lt hlt)) rfl ?_
  rintro _ w5 ⟨rfl, D1, cg⟩
  replace M := (M.step hlt R4).chs (Chs.one cg) (by simp; omega); replace G := G.chs (Chs.one cg); replace B10 := B10.chs (Chs.one cg) (by simp; omega)
  refine wl_nil ?_
  refine wq_blk_norm ?_
  refine wq_then_norm (hK6 ?_)
  refine wc_region ?_
  refine wl_y (y_add rfl rfl (i64_ok (by omega) (by omega))) rfl ?_
  refine wl_y (y_move rfl) rfl ?_
  refine wl_nil ?_
  refine wq_then_norm ?_
  refine hL1 _ _ ⟨k + 1, C.setIfInBounds (foff k) (.slice A4 n c4), rfl, rfl, by omega, G, D1, B10, M⟩ (by omega) ⟨rfl, rfl, rfl, (by first | rfl | exact congrArg some (int_val (by omega))), (by first | rfl | exact congrArg some (int_val (by omega))), trivial⟩
 ·skip
  refine wc_exit ?_
  refine wq_then_exit ?_
  refine wq_then_exit ?_
  refine wq_blk_hit ?_
  refine wq_then_norm (hK2 ?_)
  refine wc_seq ?_; intro K8 hK8
  obtain rfl : k = 5 := by omega
  have B2 := B20.chs G (by simp; omega)
  have LR := M.done hs
  have LR2 := LR
  obtain ⟨i0, i1, i2, i4, i5, rfl, _⟩ := LR2
  refine wc_region ?_
  refine wl_y (y_loadx (o := 0) (s := 6) rfl Tryz.underlying27 rfl (by kernel_rfl) B1 rfl) rfl ?_
  refine wl_ef (ef_storeP (o := 0) rfl rfl (by kernel_rfl) B2 (Nat.le_of_ble_eq_true rfl) (all_ones rfl)) rfl ?_
  rintro _ w6 ⟨rfl, D2, cg⟩
  have F6 := ((F0.mono (S' := [gB2, gB1]) (by simp)).chs G).chs (Chs.one cg)
  refine wl_nil ?_
  refine wq_then_norm (hK8 ?_)
  refine wc_ret ?_
  refine hret rfl (D2.congr (cs' := leafV i0 i1 i2 l.src i4 i5) rfl) rfl ?_
  exact ⟨_, rfl, (LR.chs (Chs.one cg) (by simp; omega)).lower (by omega), F6.toExt (by simp; omega)⟩
end Go.Proofs.YtjllhimhiekchaaGreat
