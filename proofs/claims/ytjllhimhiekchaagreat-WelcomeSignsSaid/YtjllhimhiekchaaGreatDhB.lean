/- dh's product, Clamp, Mul, Base, Shared: what each hands back. -/
import Derived.Test.YtjllhimhiekchaaGreatVi
import Derived.Test.YtjllhimhiekchaaGreatKdfC
import Derived.Test.YtjllhimhiekchaaGreatWireR
import Derived.Lib.AppendStr
import Derived.Test.YtjllhimhiekchaaGreatDhA
/- The law NodeSigns: a leaf signed by any seed, or the error; it is checked, if its key is the seed's. -/
namespace Go.Proofs.YtjllhimhiekchaaGreat
open Go.RowKit
attribute [local irreducible] Y Ef WL WC WK WQ WM OpM WN WF OpN WJ OpJ
open Wire Nd
theorem signLeaf_new {cs : Array Value} {l L : Leaf} {y : Nat} {A : Option Addr} {n c : Nat} {seed : List UInt8} {B : Option Addr} {m d : Nat} {gs : List UInt8} {z : Int} (w : World) (H : LeafAt w cs l) (hf : l.Fit) (hU : (leafU l).length ≤ 80000) (HA : Bs w A n seed) (hn : n ≤ 100) (HB : Bs w B m gs) (hm : m ≤ 100) (hX : signX l seed gs z = (L, y)) :
  Calls Tryz.prog 82 #[.agg cs, .slice A n c, .slice B m d, .int .i64 z] w fun e w' => ∃ cs', e = .returned (.tuple #[.agg cs', .int .u8 (y : Int)]) ∧ LeafAc w' cs' L ∧ (∀ (A : Option Addr) (n c : Nat), cs'[2]? = some (.slice A n c) → Fb w.heap.size w' A n L.ident) ∧ Ext w w' :=
 (signLeaf_any w H hf hU HA hn HB hm).mono fun _ _ ⟨cs', h1, h2, h4, h3⟩ => ⟨cs', by rw [h1, hX], by rw [hX] at h2; exact h2, by rw [hX] at h4; exact h4, h3⟩
theorem signX_ok {l : Leaf} {seed gs : List UInt8} {z : Int} (okw : okLeaf (wantL l)) (ha : okAt l z) (h32 : seed.length = 32) : signX l seed gs z = (l.put (Sg.sig seed (Sg.text lab.data.toList (leafT l gs z))), 0) := by
 have e : sigE seed (Sg.text lab.data.toList (leafT l gs z)) = (Sg.sig seed (Sg.text lab.data.toList (leafT l gs z)), 0) := by unfold sigE; rw [if_pos h32]
 unfold signX
 rw [if_neg (fun h => h okw), if_neg (fun h => h ha), e, if_neg (fun h => h rfl)]
theorem okLeaf_put {l : Leaf} {s : List UInt8} (okw : okLeaf (wantL l)) (hs : s.length = 64) : okLeaf (l.put s) := by
 obtain ⟨o1, o2, _, o4⟩ := okw
 exact ⟨o1, o2, hs, o4⟩
end Go.Proofs.YtjllhimhiekchaaGreat

/- hpke: rows of strings, extract and expand with labels. No conditions: contracts of the program's functions. -/
namespace Go.Proofs.YtjllhimhiekchaaGreat
open Go.RowKit
section
open Go.Lib
variable {P : Program} {L : List (Nat × Value)} {w : World} {ty t u e : TypeId} {x y : Operand}
theorem ef_appStr {A : Option Addr} {n c base : Nat} {xs : List Value} {s : ByteArray} (hx : ev L x = some (.slice A n c)) (hy : ev L y = some (.string s)) (ht : P.underlying t = some (.slice e)) (hu : P.underlying u = some .string) (hi : (P.info? e).map (fun i => (i.zero, i.size, i.bytes)) = some (some (.int .u8 0), 1, 1)) (hown : Row w base e A n c xs) (hl : n + s.size ≤ 1000000) (hbase : base ≤ w.heap.size) :
    Ef P L w (.call { callee := .builtin .append, args := #[x, y], argTypes := #[t, u] }) ty fun v w' => ∃ A' c', v = .slice A' (n + s.size) c' ∧ Row w' base e A' (n + s.size) c' (xs ++ s.data.toList.map bv) ∧ Below base w w' := Ef.run fun ρ hρ => by
  cases hq : P.info? e with
  | none => rw [hq] at hi; cases hi
  | some i =>
    rw [hq] at hi
    simp only [Option.map_some, Option.some.injEq, Prod.mk.injEq] at hi
    obtain ⟨h1, h2, h3⟩ := hi
    obtain ⟨v', w', hrun, h4, h5, _⟩ := run_append_own_string (P := P) w base t u ty e i ht hu hq h1 h2 h3 _ n xs hown s (by unfold maxLen; omega) (by omega) hbase
    obtain ⟨A', c', rfl⟩ := own_shape h4
    exact ⟨_, w', ⟨A', c', rfl, h4, (Below.refl base w).grown h5 hbase fun k hk => (World.ownsRow.lt hown k hk).1⟩, fun _ _ _ _ => by simp [execOp, resolve, invoke, builtin, hρ _ _ hx, hρ _ _ hy, hrun]⟩
end
attribute [local irreducible] Y Ef WL WC WK WQ WM OpM
namespace Hk
def sb (s : ByteArray) : List UInt8 := s.data.toList
theorem sb_len (s : ByteArray) : (sb s).length = s.size := by unfold sb; rw [Array.length_toList]; rfl
def cat (ss : List ByteArray) : List UInt8 := ss.flatMap sb
theorem cat_cons (s : ByteArray) (ss : List ByteArray) : cat (s :: ss) = sb s ++ cat ss := rfl
theorem cat_take {ss : List ByteArray} {i : Nat} (h : i < ss.length) : cat (ss.take (i + 1)) = cat (ss.take i) ++ sb ss[i] := by
 rw [List.take_succ_eq_append_getElem h]; unfold cat; rw [List.flatMap_append]; simp
theorem cat_le {ss : List ByteArray} {i : Nat} (h : i < ss.length) : (cat (ss.take i)).length + ss[i].size ≤ (cat ss).length := by
 have h1 : cat ss = cat (ss.take (i + 1)) ++ cat (ss.drop (i + 1)) := by
  unfold cat; rw [← List.flatMap_append, List.take_append_drop]
 rw [h1, cat_take h, List.length_append, List.length_append, sb_len]; omega
theorem sb_strB (xs : List UInt8) : sb (strB xs) = xs := rfl
def ver : ByteArray := ⟨#[72, 80, 75, 69, 45, 118, 49]⟩
def ext (nm : ByteArray) (xs : List UInt8) (lb : ByteArray) (ys : List UInt8) : List UInt8 := Mac.tag xs (cat [ver, nm, lb, strB ys])
def exp (nm : ByteArray) (xs : List UInt8) (lb : ByteArray) (is : List UInt8) (k : Nat) : List UInt8 := Kdf.expand xs (cat [strB (Wire.be 2 k), ver, nm, lb, strB is]) k
end Hk
open Hk
theorem hrow_any {g : Nat} {t : TypeId} (ss : List ByteArray) (k : Nat) (w : World) (B : Blk w g t (ss.map Value.string).toArray) (hk : ss.length = k) (hk2 : k ≤ 100) (hs : (cat ss).length ≤ 100000) :
  Calls Tryz.prog 178 #[.slice (some ⟨g, 0, none⟩) k k] w fun e w' => ∃ A' m c', e = .returned (.slice A' m c') ∧ Row w' w.heap.size 5 A' m c' ((cat ss).map bv) ∧ Ext w w' := by
 refine vc_enter1 17 Tryz.func178 rfl rfl rfl rfl ?_
 intro Q hret
 refine wc_seq ?_; intro K1 hK1
 refine wc_region ?_
 refine wl_y (y_assign rfl) rfl ?_
 refine wl_nil ?_
 refine wq_then_norm (hK1 ?_)
 refine wc_seq ?_; intro K2 hK2
 refine wc_region ?_
 refine wl_y (y_assign rfl) rfl ?_
 refine wl_nil ?_
 refine wq_then_norm (hK2 ?_)
 refine wc_seq ?_; intro K3 hK3
 refine wc_seq ?_; intro K4 hK4
 refine wc_region ?_
 refine wl_y (y_move rfl) rfl ?_
 refine wl_y (y_len_slice rfl Tryz.underlying270) rfl ?_
 refine wl_y (y_move rfl) rfl ?_
 refine wl_nil ?_
 refine wq_then_norm (hK4 ?_)
 refine wc_block ?_
 refine wc_loop (fun n' L wr => ∃ (i m c5 : Nat) (A5 : Option Addr), L = [(3, .slice A5 m c5), (6, .slice (some ⟨g, 0, none⟩) k k), (7, .int .i64 (k : Int)), (8, .int .i64 (i : Int))] ∧ n' = k - i ∧ (i ≤ k ∧ Ext w wr ∧ Row wr w.heap.size 5 A5 m c5 ((cat (ss.take i)).map bv))) _ _ ⟨0, 0, 0, none, rfl, rfl, Nat.zero_le _, Ext.refl _, Row.empty _ _ _⟩ ⟨rfl, rfl, (by first | rfl | exact congrArg some (int_val (by omega))), (by first | rfl | exact congrArg some (int_val (by omega))), trivial⟩ ?_
 rintro KL1 n' L wr ⟨i, m, c5, A5, rfl, rfl, hi, F, R⟩ hL1
 refine wc_seq ?_; intro K5 hK5
 refine wc_region ?_
 refine wl_y (y_lss rfl rfl) rfl ?_
 refine wl_nil ?_
 refine wq_then_norm (hK5 ?_)
 refine wc_seq ?_; intro K6 hK6
 refine wc_dec rfl (fun hc1 => ?_) (fun hc1 => ?_)
 ·skip
  refine wc_skip ?_
  refine wq_then_norm (hK6 ?_)
  refine wc_seq ?_; intro K7 hK7
  refine wc_block ?_
  refine wc_seq ?_; intro K8 hK8
  have hik : i < ss.length := by omega
  have hm : m = (cat (ss.take i)).length := by have := R.len; simpa using this.symm
  have hle := cat_le hik
  have hcell : wr.cell? ⟨g, 0 + i, none⟩ = some (.string ss[i]) := by
   rw [Nat.zero_add]
   exact (B.ext F).get (by simp [hik])
  refine wc_region ?_
  refine wl_y (y_ixs1 rfl rfl Tryz.underlying270 (by kernel_rfl) (j := i) (by omega) (by omega)) rfl ?_
  refine wl_y (y_load1 rfl Tryz.underlying9 rfl hcell) rfl ?_
  refine wl_y (y_assign rfl) rfl ?_
  refine wl_nil ?_
  refine wq_then_norm (hK8 ?_)
  refine wc_region ?_
  refine wl_y (y_move rfl) rfl ?_
  refine wl_y (y_move rfl) rfl ?_
  refine wl_ef (ef_appStr rfl rfl Tryz.underlying23 Tryz.underlying9 (by kernel_rfl) R (by omega) F.size) rfl ?_
  rintro _ w6 ⟨A6, c6, rfl, R6, be⟩
  have F6 := F.trans be; rw [← List.map_append] at R6
  refine wl_y (y_assign rfl) rfl ?_
  refine wl_nil ?_
  refine wq_blk_norm ?_
  refine wq_then_norm (hK7 ?_)
  refine wc_region ?_
  refine wl_y (y_add rfl rfl (i64_ok (by omega) (by omega))) rfl ?_
  refine wl_y (y_move rfl) rfl ?_
  refine wl_nil ?_
  refine wq_then_norm ?_
  refine hL1 _ _ ⟨i + 1, _, c6, A6, rfl, rfl, by omega, F6, by rw [cat_take hik]; exact R6⟩ (by omega) ⟨rfl, rfl, (by first | rfl | exact congrArg some (int_val (by omega))), (by first | rfl | exact congrArg some (int_val (by omega))), trivial⟩
 ·skip
  refine wc_exit ?_
  refine wq_then_exit ?_
  refine wq_then_exit ?_
  refine wq_blk_hit ?_
  refine wq_then_norm (hK3 ?_)
  refine wc_seq ?_; intro K9 hK9
  refine wc_region ?_
  refine wl_y (y_move rfl) rfl ?_
  refine wl_y (y_assign rfl) rfl ?_
  refine wl_nil ?_
  refine wq_then_norm (hK9 ?_)
  refine wc_ret ?_
  refine hret rfl ?_
  obtain rfl : i = k := by omega
  rw [List.take_of_length_le (by omega)] at R
  exact ⟨A5, m, c5, rfl, R, F⟩
theorem hextract_any (nm lb : ByteArray) (A B : Option Addr) (n c m d : Nat) (xs ys : List UInt8) (w : World) (HA : Bs w A n xs) (hn : n ≤ 100000) (HB : Bs w B m ys) (hm : m ≤ 10000) (h1 : nm.size ≤ 100) (h2 : lb.size ≤ 100) :
  Calls Tryz.prog 165 #[.string nm, .slice A n c, .string lb, .slice B m d] w fun e w' => ∃ A' c', e = .returned (.slice A' 32 c') ∧ Bs w' A' 32 (Hk.ext nm xs lb ys) ∧ Ext w w' := by
 have E := Ext.refl w
 have hyl := HB.1
 have hl : (cat [ver, nm, lb, strB ys]).length ≤ 11000 := by
  simp only [cat_cons, List.length_append, sb_len nm, sb_len lb, sb_strB, show (sb ver).length = 7 from rfl, show (cat []).length = 0 from rfl]; omega
 refine vc_enter1 17 Tryz.func165 rfl rfl rfl rfl ?_
 intro Q hret
 refine wc_seq ?_; intro K1 hK1
 refine wc_region ?_
 refine wl_y (y_assign rfl) rfl ?_
 refine wl_nil ?_
 refine wq_then_norm (hK1 ?_)
 refine wc_seq ?_; intro K2 hK2
 refine wc_region ?_
 refine wl_y (y_move rfl) rfl ?_
 refine wl_y (y_move rfl) rfl ?_
 refine wl_y (y_move rfl) rfl ?_
 refine wl_y (y_move rfl) rfl ?_
 refine wl_y (y_ofBytes rfl HB Tryz.underlying23 Tryz.underlying5 Tryz.underlying9) rfl ?_
 refine wl_ef (ef_lit (z := .string ⟨#[]⟩) Tryz.underlying270 (by kernel_rfl) rfl rfl rfl rfl rfl) rfl ?_
 rintro _ w1 ⟨g1, rfl, B1, hg1, ex⟩
 replace HA := HA.ext ex
 replace HB := HB.ext ex
 replace E := E.ext ex
 skip
 refine wl_call Tryz.func178 rfl rfl rfl (hrow_any [ver, nm, lb, strB ys] 4 _ B1 rfl (by omega) (by omega)) rfl ?_
 rintro e w2 ⟨A2, m2, c2, rfl, R2, ex⟩
 refine ⟨_, rfl, ?_⟩
 replace HA := HA.ext ex
 replace HB := HB.ext ex
 replace E := E.ext ex
 have H2 := R2.bs; have hm2 := H2.1
 refine wl_call Tryz.func106 rfl rfl rfl (extract_any A A2 n c m2 c2 xs _ _ HA (by omega) H2 (by omega)) rfl ?_
 rintro e w3 ⟨A3, c3, rfl, H3, ex⟩
 refine ⟨_, rfl, ?_⟩
 replace HA := HA.ext ex
 replace HB := HB.ext ex
 replace E := E.ext ex
 skip
 refine wl_y (y_assign rfl) rfl ?_
 refine wl_nil ?_
 refine wq_then_norm (hK2 ?_)
 refine wc_ret ?_
 refine hret rfl ?_
 exact ⟨A3, c3, rfl, H3, E⟩
theorem hexpand_any (nm lb : ByteArray) (A B : Option Addr) (n c m d k : Nat) (xs ys : List UInt8) (w : World) (HA : Bs w A n xs) (hn : n ≤ 100000) (HB : Bs w B m ys) (hm : m ≤ 10000) (h1 : nm.size ≤ 100) (h2 : lb.size ≤ 100) (hk : k ≤ 8160) :
  Calls Tryz.prog 164 #[.string nm, .slice A n c, .string lb, .slice B m d, .int .i64 (k : Int)] w fun e w' => ∃ A' c', e = .returned (.slice A' k c') ∧ Bs w' A' k (Hk.exp nm xs lb ys k) ∧ k ≤ c' ∧ Ext w w' := by
 have E := Ext.refl w
 have hyl := HB.1
 have hbl := Wire.be_length 2 k
 have hl : (cat [strB (Wire.be 2 k), ver, nm, lb, strB ys]).length ≤ 11000 := by
  simp only [cat_cons, List.length_append, sb_len nm, sb_len lb, sb_strB, show (sb ver).length = 7 from rfl, show (cat []).length = 0 from rfl]; omega
 refine vc_enter1 32 Tryz.func164 rfl rfl rfl rfl ?_
 intro Q hret
 refine wc_seq ?_; intro K1 hK1
 refine wc_region ?_
 refine wl_y (y_assign rfl) rfl ?_
 refine wl_nil ?_
 refine wq_then_norm (hK1 ?_)
 refine wc_seq ?_; intro K2 hK2
 refine wc_region ?_
 refine wl_y (y_move rfl) rfl ?_
 refine wl_y (y_conv rfl Tryz.underlying3 Tryz.underlying38 (IntWalk.u64_in _ ⟨by omega, by omega⟩)) rfl ?_
 refine wl_call Tryz.func135 rfl rfl rfl (putNum_any none 0 0 2 k [] _ (Bs.nil _ _) (by omega) (by omega) (by omega)) rfl ?_
 rintro e w1 ⟨A1, c1, rfl, R1, ex⟩
 refine ⟨_, rfl, ?_⟩
 replace HA := HA.ext ex
 replace HB := HB.ext ex
 replace E := E.ext ex
 have H1 := R1.bs
 refine wl_y (y_assign rfl) rfl ?_
 refine wl_nil ?_
 refine wq_then_norm (hK2 ?_)
 refine wc_seq ?_; intro K3 hK3
 refine wc_region ?_
 refine wl_y (y_move rfl) rfl ?_
 refine wl_y (y_move rfl) rfl ?_
 refine wl_y (y_ofBytes rfl H1 Tryz.underlying23 Tryz.underlying5 Tryz.underlying9) rfl ?_
 refine wl_y (y_move rfl) rfl ?_
 refine wl_y (y_move rfl) rfl ?_
 refine wl_y (y_move rfl) rfl ?_
 refine wl_y (y_ofBytes rfl HB Tryz.underlying23 Tryz.underlying5 Tryz.underlying9) rfl ?_
 refine wl_ef (ef_lit (z := .string ⟨#[]⟩) Tryz.underlying270 (by kernel_rfl) rfl rfl rfl rfl rfl) rfl ?_
 rintro _ w2 ⟨g2, rfl, B2, hg2, ex⟩
 replace HA := HA.ext ex
 replace HB := HB.ext ex
 replace E := E.ext ex
 replace H1 := H1.ext ex
 skip
 refine wl_call Tryz.func178 rfl rfl rfl (hrow_any [strB (Wire.be 2 k), ver, nm, lb, strB ys] 5 _ B2 rfl (by omega) (by omega)) rfl ?_
 rintro e w3 ⟨A3, m3, c3, rfl, R3, ex⟩
 refine ⟨_, rfl, ?_⟩
 replace HA := HA.ext ex
 replace HB := HB.ext ex
 replace E := E.ext ex
 replace H1 := H1.ext ex
 have H3 := R3.bs; have hm3 := H3.1
 refine wl_y (y_move rfl) rfl ?_
 refine wl_call Tryz.func201 rfl rfl rfl (expand_any A A3 n c m3 c3 k xs _ _ HA (by omega) H3 (by omega) hk) rfl ?_
 rintro e w4 ⟨A4, c4, rfl, H4, hc4, ex⟩
 refine ⟨_, rfl, ?_⟩
 replace HA := HA.ext ex
 replace HB := HB.ext ex
 replace E := E.ext ex
 replace H1 := H1.ext ex
 skip
 refine wl_y (y_move rfl) rfl ?_
 refine wl_y (y_extract rfl rfl) rfl ?_
 refine wl_y (y_extract rfl rfl) rfl ?_
 refine wl_y (y_assign rfl) rfl ?_
 refine wl_y (y_assign rfl) rfl ?_
 refine wl_nil ?_
 refine wq_then_norm (hK3 ?_)
 refine wc_seq ?_; intro K4 hK4
 refine wc_region ?_
 refine wl_y (y_move rfl) rfl ?_
 refine wl_y (y_assign rfl) rfl ?_
 refine wl_nil ?_
 refine wq_then_norm (hK4 ?_)
 refine wc_ret ?_
 refine hret rfl ?_
 exact ⟨A4, c4, rfl, H4, hc4, E⟩
end Go.Proofs.YtjllhimhiekchaaGreat

namespace Go.Proofs.YtjllhimhiekchaaGreat
open Go.RowKit
attribute [local irreducible] Y Ef WL WC WK WQ WM OpM WN WF OpN
def ladder (u : Fp.F) (N : Nat) : Nat → (Fp.F × Fp.F) × (Fp.F × Fp.F)
 | 0 => ((1, 0), (u, 1))
 | i + 1 => if N / 2 ^ (254 - i) % 2 = 1 then ((lad (ladder u N i).2.1 (ladder u N i).2.2 (ladder u N i).1.1 (ladder u N i).1.2 u).2, (lad (ladder u N i).2.1 (ladder u N i).2.2 (ladder u N i).1.1 (ladder u N i).1.2 u).1)
   else lad (ladder u N i).1.1 (ladder u N i).1.2 (ladder u N i).2.1 (ladder u N i).2.2 u
theorem ladder_t {u : Fp.F} {N i : Nat} (h : N / 2 ^ (254 - i) % 2 = 1) : ladder u N (i + 1) = ((lad (ladder u N i).2.1 (ladder u N i).2.2 (ladder u N i).1.1 (ladder u N i).1.2 u).2, (lad (ladder u N i).2.1 (ladder u N i).2.2 (ladder u N i).1.1 (ladder u N i).1.2 u).1) := by
 rw [ladder, if_pos h]
theorem ladder_f {u : Fp.F} {N i : Nat} (h : ¬ N / 2 ^ (254 - i) % 2 = 1) : ladder u N (i + 1) = lad (ladder u N i).1.1 (ladder u N i).1.2 (ladder u N i).2.1 (ladder u N i).2.2 u := by
 rw [ladder, if_neg h]
def dhMul (N : Nat) (u : Fp.F) : Fp.F := (ladder u N 255).1.1 * Fp.inv (ladder u N 255).1.2
theorem product_any (A : Option Addr) (c : Nat) (es : List UInt8) (f3 : Nat → Nat) (u : Fp.F) (w : World) (HA : Bs w A 32 es) (U : FE (fe f3) u) :
  Calls Tryz.prog 252 #[.slice A 32 c, .agg (fe f3)] w fun e w' => ∃ g, e = .returned (.slice (some ⟨g, 0, none⟩) 32 32) ∧ w.heap.size ≤ g ∧ Blk w' g 5 (bys (Fp.le 32 (dhMul (Fp.num es) u).val)) ∧ Ext w w' := by
 have hle := HA.1
 have E := Ext.refl w
 have HA0 := HA
 refine vc_enter1 49 Tryz.func252 rfl rfl rfl rfl ?_
 intro Q hret
 refine wc_seq ?_; intro K1 hK1
 refine wc_region ?_
 refine wl_ef (ef_box (cs := fe f3) rfl rfl) rfl ?_
 rintro _ w1 ⟨g3, rfl, B3, hg3, ex⟩
 replace E := E.ext ex
 skip
 refine wl_y (y_assign rfl) rfl ?_
 refine wl_nil ?_
 refine wq_then_norm (hK1 ?_)
 refine wc_scope2 0 (fun n' L wr => ∃ (b g5 g6 : Nat) (p1 p2 q1 q2 : Nat → Nat), L = [(0, .slice A 32 c), (3, .pointer (some ⟨g3, 0, none⟩)), (5, .pointer (some ⟨g5, 0, none⟩)), (6, .pointer (some ⟨g6, 0, none⟩)), (7, .int .i64 (b : Int))] ∧ n' = 1 + b ∧ (b ≤ 254 ∧ w.heap.size ≤ g5 ∧ w.heap.size ≤ g6 ∧ g3 < g5 ∧ g3 < g6 ∧ g5 ≠ g6 ∧ Ext w wr ∧ Blk wr g3 135 (fe f3) ∧ Blk wr g5 304 (pr p1 p2) ∧ Blk wr g6 304 (pr q1 q2) ∧ FE (fe p1) (ladder u (Fp.num es) (254 - b)).1.1 ∧ FE (fe p2) (ladder u (Fp.num es) (254 - b)).1.2 ∧ FE (fe q1) (ladder u (Fp.num es) (254 - b)).2.1 ∧ FE (fe q2) (ladder u (Fp.num es) (254 - b)).2.2)) rfl ?_ ?_
 ·rintro G n' L wr ⟨b, g5, g6, p1, p2, q1, q2, rfl, rfl, hb, hw5, hw6, l35, l36, n56, E, B3, B5, B6, P1, P2, Q1, Q2⟩ hG0
  refine wc_seq ?_; intro K2 hK2
  refine wc_seq ?_; intro K3 hK3
  obtain ⟨i, hi⟩ : ∃ i, i = 254 - b := ⟨_, rfl⟩
  have hbi : b = 254 - i := by omega
  rw [← hi] at P1 P2 Q1 Q2
  have hnb := num_bit es b (by omega)
  obtain ⟨b1, off1, x, rfl, hx, hcx0⟩ := HA0.byte (k := b / 8) (by omega)
  have hcx := (E.cell (cell_lt hcx0)).trans hcx0
  have hxl := x.toNat_lt
  rw [← hx.out] at hnb
  have hxd : x.toNat / 2 ^ (b % 8) < 256 := Nat.lt_of_le_of_lt (Nat.div_le_self _ _) (by omega)
  refine wc_region ?_
  refine wl_y (y_move rfl) rfl ?_
  refine wl_y (y_move rfl) rfl ?_
  refine wl_y (y_quo rfl rfl (by omega) (show IntKind.i64.wrap ((b : Int).tdiv 8) = ((b / 8 : Nat) : Int) from i64_nat rfl (by omega))) rfl ?_
  refine wl_y (y_ixs1 rfl rfl Tryz.underlying23 (by kernel_rfl) (j := b / 8) rfl (by omega)) rfl ?_
  refine wl_y (y_load1 rfl Tryz.underlying5 rfl hcx) rfl ?_
  refine wl_y (y_move rfl) rfl ?_
  refine wl_y (y_rem rfl rfl (by omega) (show ((b : Int).tmod 8) = ((b % 8 : Nat) : Int) from rfl)) rfl ?_
  refine wl_y (y_shr rfl rfl (by omega) (shr_u8 _ _ (by omega))) rfl ?_
  refine wl_y (y_and rfl rfl (and1b _ hxd)) rfl ?_
  refine wl_y (y_eql rfl rfl) rfl ?_
  refine wl_nil ?_
  refine wq_then_norm (hK3 ?_)
  refine wc_dec rfl (fun hc1 => ?_) (fun hc1 => ?_)
  ·skip
   have hlad := ladder_t (u := u) (N := Fp.num es) (i := i) (by rw [← hbi]; omega)
   refine wc_region ?_
   refine wl_y (y_lP rfl B6) rfl ?_
   refine wl_y (y_lP rfl B5) rfl ?_
   refine wl_y (y_lE rfl B3) rfl ?_
   refine wl_call Tryz.func266 rfl rfl rfl (dhstep_any q1 q2 p1 p2 f3 _ _ _ _ u _ Q1 Q2 P1 P2 U) rfl ?_
   rintro e w6 ⟨h1, h2, h3, h4, rfl, G1, G2, G3, G4, ex⟩
   refine ⟨_, rfl, ?_⟩
   replace E := E.ext ex
   replace B3 := B3.ext ex
   replace B5 := B5.ext ex
   replace B6 := B6.ext ex
   skip
   refine wl_y (y_move rfl) rfl ?_
   refine wl_y (y_extract rfl rfl) rfl ?_
   refine wl_y (y_extract rfl rfl) rfl ?_
   refine wl_ef (ef_storeW rfl rfl (by rw [pr_size]; kernel_rfl) B6 (by rw [pr_size, pr_size]) (pr_one _ _)) rfl ?_
   rintro _ w7 ⟨rfl, D6, cg⟩
   replace B3 := B3.chg cg (by omega); replace B5 := B5.chg cg (by omega); replace E := E.chg cg hw6
   refine wl_ef (ef_storeW rfl rfl (by rw [pr_size]; kernel_rfl) B5 (by rw [pr_size, pr_size]) (pr_one _ _)) rfl ?_
   rintro _ w8 ⟨rfl, D5, cg⟩
   replace B3 := B3.chg cg (by omega); replace D6 := D6.chg cg (by omega); replace E := E.chg cg hw5
   refine wl_nil ?_
   refine wq_then_norm (hK2 ?_)
   refine wc_seq ?_; intro K4 hK4
   refine wc_seq ?_; intro K5 hK5
   refine wc_region ?_
   refine wl_y (y_move rfl) rfl ?_
   refine wl_y (y_sub rfl rfl (i64_ok (by omega) (by omega))) rfl ?_
   refine wl_y (y_assign rfl) rfl ?_
   refine wl_nil ?_
   refine wq_then_norm (hK5 ?_)
   refine wc_seq ?_; intro K6 hK6
   refine wc_region ?_
   refine wl_y (y_move rfl) rfl ?_
   refine wl_y (y_geq rfl rfl) rfl ?_
   refine wl_nil ?_
   refine wq_then_norm (hK6 ?_)
   refine wc_dec rfl (fun hc2 => ?_) (fun hc2 => ?_)
   ·skip
    refine wc_goto ?_
    refine wq_then_goto ?_
    refine wq_jump_hit ?_
    obtain ⟨j, rfl⟩ : ∃ j, b = j + 1 := ⟨b - 1, by omega⟩
    rw [show (((j + 1 : Nat) : Int) - 1) = (j : Int) by omega]
    have hij : 254 - j = i + 1 := by omega
    refine hG0 _ _ ⟨j, g5, g6, h3, h4, h1, h2, rfl, rfl, by omega, hw5, hw6, l35, l36, n56, E, B3, D5, D6, by rw [hij, hlad]; exact G3, by rw [hij, hlad]; exact G4, by rw [hij, hlad]; exact G1, by rw [hij, hlad]; exact G2⟩ (by omega) ⟨rfl, rfl, rfl, rfl, (by first | rfl | exact congrArg some (int_val (by omega))), trivial⟩
   ·skip
    refine wc_skip ?_
    refine wq_then_norm (hK4 ?_)
    refine wc_seq ?_; intro K7 hK7
    refine wc_draw (by kernel_rfl) 8 rfl ?_; intro wd8 ex hd8
    replace E := E.ext ex
    replace B3 := B3.ext ex
    replace D5 := D5.ext ex
    replace D6 := D6.ext ex
    refine wm_y 0 rfl (by kernel_rfl) (y_fieldAddr (o := 0) (s := 5) (off := 0) (o' := 0) rfl Tryz.underlying304 rfl (by kernel_rfl) rfl rfl) rfl ?_
    refine wm_y 1 rfl (by kernel_rfl) (y_lP0 rfl D5) rfl ?_
    refine wm_y 2 rfl (by kernel_rfl) (y_fieldAddr (o := 5) (s := 5) (off := 0) (o' := 5) rfl Tryz.underlying304 rfl (by kernel_rfl) rfl rfl) rfl ?_
    refine wm_y 3 rfl (by kernel_rfl) (y_lP1 rfl D5) rfl ?_
    refine wm_one 4 (by kernel_rfl) ?_; refine om_call rfl Tryz.func153 rfl rfl rfl (Finv_any G4 _) rfl ?_
    rintro e w9 ⟨c9, rfl, F9, ex⟩
    refine ⟨_, rfl, .inr ex, ?_⟩
    replace E := E.ext ex
    replace B3 := B3.ext ex
    replace D5 := D5.ext ex
    replace D6 := D6.ext ex
    skip
    refine wm_one 5 (by kernel_rfl) ?_; refine om_call rfl Tryz.func152 rfl rfl rfl (Fmul_any G3 F9 _) rfl ?_
    rintro e w10 ⟨c10, rfl, F10, ex⟩
    refine ⟨_, rfl, .inr ex, ?_⟩
    replace E := E.ext ex
    replace B3 := B3.ext ex
    replace D5 := D5.ext ex
    replace D6 := D6.ext ex
    replace F10 := F10.congr (show _ = dhMul (Fp.num es) u by unfold dhMul; rw [show (255 : Nat) = i + 1 by omega, hlad]); have hsz := E.size
    refine wm_one 6 (by kernel_rfl) ?_; refine om_call rfl Tryz.func162 rfl rfl rfl (fbytes_any F10 _) rfl ?_
    rintro e w11 ⟨g11, rfl, hg11, B11, ex⟩
    refine ⟨_, rfl, .inr ex, ?_⟩
    replace E := E.ext ex
    replace B3 := B3.ext ex
    replace D5 := D5.ext ex
    replace D6 := D6.ext ex
    skip
    refine wm_y 7 rfl (by kernel_rfl) (y_assign rfl) rfl ?_
    refine wm_done (by kernel_rfl) ?_
    refine wq_nop ?_
    refine wq_then_norm (hK7 ?_)
    refine wc_ret ?_
    refine wq_jump_ret ?_
    refine hret rfl ?_
    exact ⟨g11, rfl, by omega, B11, E⟩
  ·skip
   have hlad := ladder_f (u := u) (N := Fp.num es) (i := i) (by rw [← hbi]; omega)
   refine wc_region ?_
   refine wl_y (y_lP rfl B5) rfl ?_
   refine wl_y (y_lP rfl B6) rfl ?_
   refine wl_y (y_lE rfl B3) rfl ?_
   refine wl_call Tryz.func266 rfl rfl rfl (dhstep_any p1 p2 q1 q2 f3 _ _ _ _ u _ P1 P2 Q1 Q2 U) rfl ?_
   rintro e w6 ⟨h1, h2, h3, h4, rfl, G1, G2, G3, G4, ex⟩
   refine ⟨_, rfl, ?_⟩
   replace E := E.ext ex
   replace B3 := B3.ext ex
   replace B5 := B5.ext ex
   replace B6 := B6.ext ex
   skip
   refine wl_y (y_move rfl) rfl ?_
   refine wl_y (y_extract rfl rfl) rfl ?_
   refine wl_y (y_extract rfl rfl) rfl ?_
   refine wl_ef (ef_storeW rfl rfl (by rw [pr_size]; kernel_rfl) B5 (by rw [pr_size, pr_size]) (pr_one _ _)) rfl ?_
   rintro _ w7 ⟨rfl, D5, cg⟩
   replace B3 := B3.chg cg (by omega); replace B6 := B6.chg cg (by omega); replace E := E.chg cg hw5
   refine wl_ef (ef_storeW rfl rfl (by rw [pr_size]; kernel_rfl) B6 (by rw [pr_size, pr_size]) (pr_one _ _)) rfl ?_
   rintro _ w8 ⟨rfl, D6, cg⟩
   replace B3 := B3.chg cg (by omega); replace D5 := D5.chg cg (by omega); replace E := E.chg cg hw6
   refine wl_nil ?_
   refine wq_then_norm (hK2 ?_)
   refine wc_seq ?_; intro K8 hK8
   refine wc_seq ?_; intro K9 hK9
   refine wc_region ?_
   refine wl_y (y_move rfl) rfl ?_
   refine wl_y (y_sub rfl rfl (i64_ok (by omega) (by omega))) rfl ?_
   refine wl_y (y_assign rfl) rfl ?_
   refine wl_nil ?_
   refine wq_then_norm (hK9 ?_)
   refine wc_seq ?_; intro K10 hK10
   refine wc_region ?_
   refine wl_y (y_move rfl) rfl ?_
   refine wl_y (y_geq rfl rfl) rfl ?_
   refine wl_nil ?_
   refine wq_then_norm (hK10 ?_)
   refine wc_dec rfl (fun hc2 => ?_) (fun hc2 => ?_)
   ·skip
    refine wc_goto ?_
    refine wq_then_goto ?_
    refine wq_jump_hit ?_
    obtain ⟨j, rfl⟩ : ∃ j, b = j + 1 := ⟨b - 1, by omega⟩
    rw [show (((j + 1 : Nat) : Int) - 1) = (j : Int) by omega]
    have hij : 254 - j = i + 1 := by omega
    refine hG0 _ _ ⟨j, g5, g6, h1, h2, h3, h4, rfl, rfl, by omega, hw5, hw6, l35, l36, n56, E, B3, D5, D6, by rw [hij, hlad]; exact G1, by rw [hij, hlad]; exact G2, by rw [hij, hlad]; exact G3, by rw [hij, hlad]; exact G4⟩ (by omega) ⟨rfl, rfl, rfl, rfl, (by first | rfl | exact congrArg some (int_val (by omega))), trivial⟩
   ·skip
    refine wc_skip ?_
    refine wq_then_norm (hK8 ?_)
    refine wc_seq ?_; intro K11 hK11
    refine wc_draw (by kernel_rfl) 8 rfl ?_; intro wd8 ex hd8
    replace E := E.ext ex
    replace B3 := B3.ext ex
    replace D5 := D5.ext ex
    replace D6 := D6.ext ex
    refine wm_y 0 rfl (by kernel_rfl) (y_fieldAddr (o := 0) (s := 5) (off := 0) (o' := 0) rfl Tryz.underlying304 rfl (by kernel_rfl) rfl rfl) rfl ?_
    refine wm_y 1 rfl (by kernel_rfl) (y_lP0 rfl D5) rfl ?_
    refine wm_y 2 rfl (by kernel_rfl) (y_fieldAddr (o := 5) (s := 5) (off := 0) (o' := 5) rfl Tryz.underlying304 rfl (by kernel_rfl) rfl rfl) rfl ?_
    refine wm_y 3 rfl (by kernel_rfl) (y_lP1 rfl D5) rfl ?_
    refine wm_one 4 (by kernel_rfl) ?_; refine om_call rfl Tryz.func153 rfl rfl rfl (Finv_any G2 _) rfl ?_
    rintro e w9 ⟨c9, rfl, F9, ex⟩
    refine ⟨_, rfl, .inr ex, ?_⟩
    replace E := E.ext ex
    replace B3 := B3.ext ex
    replace D5 := D5.ext ex
    replace D6 := D6.ext ex
    skip
    refine wm_one 5 (by kernel_rfl) ?_; refine om_call rfl Tryz.func152 rfl rfl rfl (Fmul_any G1 F9 _) rfl ?_
    rintro e w10 ⟨c10, rfl, F10, ex⟩
    refine ⟨_, rfl, .inr ex, ?_⟩
    replace E := E.ext ex
    replace B3 := B3.ext ex
    replace D5 := D5.ext ex
    replace D6 := D6.ext ex
    replace F10 := F10.congr (show _ = dhMul (Fp.num es) u by unfold dhMul; rw [show (255 : Nat) = i + 1 by omega, hlad]); have hsz := E.size
    refine wm_one 6 (by kernel_rfl) ?_; refine om_call rfl Tryz.func162 rfl rfl rfl (fbytes_any F10 _) rfl ?_
    rintro e w11 ⟨g11, rfl, hg11, B11, ex⟩
    refine ⟨_, rfl, .inr ex, ?_⟩
    replace E := E.ext ex
    replace B3 := B3.ext ex
    replace D5 := D5.ext ex
    replace D6 := D6.ext ex
    skip
    refine wm_y 7 rfl (by kernel_rfl) (y_assign rfl) rfl ?_
    refine wm_done (by kernel_rfl) ?_
    refine wq_nop ?_
    refine wq_then_norm (hK11 ?_)
    refine wc_ret ?_
    refine wq_jump_ret ?_
    refine hret rfl ?_
    exact ⟨g11, rfl, by omega, B11, E⟩
 ·intro G hG0
  refine wc_seq ?_; intro K12 hK12
  refine wc_drawB (by kernel_rfl) 10 rfl ?_; intro wd1 ex hd1
  replace E := E.ext ex
  replace B3 := B3.ext ex
  have E_0 := E
  have B3_0 := B3
  have X0 := Ext.refl wd1
  refine wn_y 1 rfl (by kernel_rfl) (y_build rfl (cells := fe (fun _ => 0)) (by kernel_rfl)) rfl ?_
  refine wn_y 3 rfl (by kernel_rfl) (y_lE rfl B3_0) rfl ?_
  refine wf_start (fl := [flA 6 5 304 (pr (fun _ => 0) (fun _ => 0)), flA 7 6 304 (pr (fun _ => 0) (fun _ => 0))]) rfl ?_
  refine wf_call (j := 0) (dst := some 8) ⟨(fall (flA_runs rfl (by kernel_rfl)) (fall (flA_runs rfl (by kernel_rfl)) fall_nil)), by decide, by decide, (fall (⟨rfl, by decide⟩) (fall (⟨rfl, by decide⟩) fall_nil)), (fall (mem_of_has (by kernel_rfl)) (fall (mem_of_has (by kernel_rfl)) fall_nil))⟩ (by kernel_rfl) (fall (by decide) (fall (by decide) fall_nil)) rfl Tryz.func151 rfl rfl rfl (fall (by decide) (fall (by decide) fall_nil)) rfl ?_
  intro wf1_0 ex exb
  replace E := E.ext ex
  replace B3 := B3.ext ex
  replace X0 := X0.ext ex
  refine ⟨_, (Fnum_any 1 _ (by omega)), ?_⟩
  rintro e w2 ⟨c2, rfl, F2, ex⟩
  refine ⟨_, rfl, ex, ?_⟩
  replace E := E.ext ex
  replace B3 := B3.ext ex
  replace X0 := X0.ext ex
  obtain ⟨f2, rfl, F2⟩ := F2.fe
  refine wf_y (dst := some 10) 2 rfl (by kernel_rfl) (y_build rfl (cells := pr f2 (fun _ => 0)) (by kernel_rfl)) rfl (fall (by decide) (fall (by decide) fall_nil)) ?_
  refine wf_call (j := 4) (dst := some 12) ⟨(fall (flA_runs rfl (by kernel_rfl)) (fall (flA_runs rfl (by kernel_rfl)) fall_nil)), by decide, by decide, (fall (⟨rfl, by decide⟩) (fall (⟨rfl, by decide⟩) fall_nil)), (fall (mem_of_has (by kernel_rfl)) (fall (mem_of_has (by kernel_rfl)) fall_nil))⟩ (by kernel_rfl) (fall (by decide) (fall (by decide) fall_nil)) rfl Tryz.func151 rfl rfl rfl (fall (by decide) (fall (by decide) fall_nil)) rfl ?_
  intro wf1_4 ex exb
  replace E := E.ext ex
  replace B3 := B3.ext ex
  replace X0 := X0.ext ex
  refine ⟨_, (Fnum_any 1 _ (by omega)), ?_⟩
  rintro e w4 ⟨c4, rfl, F4, ex⟩
  refine ⟨_, rfl, ex, ?_⟩
  replace E := E.ext ex
  replace B3 := B3.ext ex
  replace X0 := X0.ext ex
  obtain ⟨f4, rfl, F4⟩ := F4.fe
  refine wf_y (dst := some 13) 5 rfl (by kernel_rfl) (y_build rfl (cells := pr f3 f4) (by kernel_rfl)) rfl (fall (by decide) (fall (by decide) fall_nil)) ?_
  refine wf_land2 ⟨(fall (flA_runs rfl (by kernel_rfl)) (fall (flA_runs rfl (by kernel_rfl)) fall_nil)), by decide, by decide, (fall (⟨rfl, by decide⟩) (fall (⟨rfl, by decide⟩) fall_nil)), (fall (mem_of_has (by kernel_rfl)) (fall (mem_of_has (by kernel_rfl)) fall_nil))⟩ (by kernel_rfl) ?_
  rintro _ _ wl1 ex ⟨⟨g5, rfl, Bg5⟩, hg5⟩ ⟨⟨g6, rfl, Bg6⟩, hg6⟩ farg5_g6
  replace hg5 := hg5 g5 rfl
  replace hg6 := hg6 g6 rfl
  have neg5_g6 : g5 ≠ g6 := fun e => farg5_g6 g5 rfl (by rw [e]; rfl)
  replace E := E.ext ex
  replace B3 := B3.ext ex
  replace X0 := X0.ext ex
  have hw5 := Nat.le_trans E_0.size hg5; have l35 := Nat.lt_of_lt_of_le B3_0.lt hg5
  have hw6 := Nat.le_trans E_0.size hg6; have l36 := Nat.lt_of_lt_of_le B3_0.lt hg6
  refine wn_one 8 (by kernel_rfl) ?_
  refine on_ef rfl (ef_storeW rfl rfl (by rw [pr_size]; kernel_rfl) Bg5 (by rw [pr_size, pr_size]) (pr_one _ _)) rfl ?_
  rintro _ wn1_8 ⟨rfl, Bg5, cg⟩
  replace X0 := X0.chg cg hg5
  refine ⟨X0, ?_⟩
  replace E := E_0.ext X0
  replace B3 := B3_0.ext X0
  replace Bg6 := Bg6.chg cg (by omega)
  refine wn_one 9 (by kernel_rfl) ?_
  refine on_ef rfl (ef_storeW rfl rfl (by rw [pr_size]; kernel_rfl) Bg6 (by rw [pr_size, pr_size]) (pr_one _ _)) rfl ?_
  rintro _ wn1_9 ⟨rfl, Bg6, cg⟩
  replace X0 := X0.chg cg hg6
  refine ⟨X0, ?_⟩
  replace E := E_0.ext X0
  replace B3 := B3_0.ext X0
  replace Bg5 := Bg5.chg cg (by omega)
  refine wn_done (by kernel_rfl) ?_
  refine wq_nop ?_
  refine wq_then_norm (hK12 ?_)
  refine wc_seq ?_; intro K13 hK13
  refine wc_region ?_
  refine wl_y (y_assign rfl) rfl ?_
  refine wl_nil ?_
  refine wq_then_norm (hK13 ?_)
  refine wc_seq ?_; intro KG0 hKG0
  refine wc_label ?_
  refine wq_then_norm (hKG0 ?_)
  exact hG0 _ _ ⟨254, g5, g6, f2, (fun _ => 0), f3, f4, rfl, rfl, by omega, hw5, hw6, l35, l36, by omega, E, B3, Bg5, Bg6, F2, FE.zero, U, F4⟩ ⟨rfl, rfl, rfl, rfl, (by first | rfl | exact congrArg some (int_val (by omega))), trivial⟩
end Go.Proofs.YtjllhimhiekchaaGreat
