/- The reference's tag, and which tags are right. Lengths up to 2^45. -/
import Derived.Test.YtgfafidlkldeaaaGreatShaR
import Derived.Test.YtgfafidlkldeaaaGreatSha5
import Derived.Test.YtgfafidlkldeaaaGreatSl
import Derived.Test.YtgfafidlkldeaaaGreatAu
set_option linter.unusedVariables false
set_option linter.unusedSimpArgs false
set_option maxHeartbeats 4000000
set_option maxRecDepth 4000
namespace Go.Proofs.YtgfafidlkldeaaaGreat
section
open Go.RowKit Tryz
set_option maxRecDepth 100000 in
theorem yH (w : World) : Ct 120 #[] w fun e w' => ∃ g1 g2, e = .returned (.tuple #[.slice (some ⟨g1, 0, none⟩) 8 8, .slice (some ⟨g2, 0, none⟩) 64 64]) ∧ Ns .u64 w' (some ⟨g1, 0, none⟩) 8 Sha.H0 ∧ Ns .u64 w' (some ⟨g2, 0, none⟩) 64 Sha.K ∧ Below w.heap.size w w' := by
 go_enter func120, ntmps120
 go_wp2
 go_ret2
 refine ⟨_, _, rfl, ?_, ?_, ((Below.refl _ _).alloc (Nat.le_refl _) _).alloc (by simp) _⟩
 ·refine Ns.below (w := w.alloc _) ?_ ((Below.refl _ _).alloc (Nat.le_refl _) _)
  exact Iu (w := w) Sha.H0 _ rfl rfl
 ·have h := Iu (w := w.alloc (.cells (aK .u64 Sha.H0) 38)) (t := 38) (k := .u64) Sha.K (aK .u64 Sha.K) rfl rfl (n := 64)
  rw [World.size_alloc] at h
  exact h
theorem fk (A : Oa) (n c : Nat) (xs : Lb) (w : World) (ha : Bs w A n xs) (hn : n ≤ 35184372088832) :
    Ct 52 #[.slice A n c] w fun e w' => ∃ A' c', e = .returned (.slice A' 32 c') ∧ Own w' w.heap.size A' 32 c' (Sha.sum xs) ∧ Below w.heap.size w w' := by
  have HA := Lib.hid ha
  clear ha
  go_enter func52, ntmps52
  go_wp2_with (first
    | (go_at_call 120; refine (yH _).mono ?_; rintro e w1 ⟨g1, g2, rfl, h1, h2, Vm⟩
       have H1 := Lib.hid h1; have H2 := Lib.hid h2; have Vl := Lib.hid Vm
       clear h1 h2 Vm)
    | (go_at_call 121; refine (Cm A _ _ n c _ _ xs _ (HA.out.below Vl.out) hn H1.out H2.out).mono ?_; rintro e w2 ⟨A2, c2, rfl, Vn, Vo⟩
       have Vp := Lib.hid Vn
       have Vq : Hid (Below w.heap.size w w2) := Vl.out.trans (Vo.mono Vl.out.size)
       have Vr := Vl.out.size
       clear Vn Vo))
  go_ret
  exact ⟨A2, c2, rfl, Vp.out.lower Vr, Vq.out⟩
theorem sJ (A : Oa) (n c : Nat) (xss : List (List UInt8)) (w : World) (ha : sN w A n xss) (hn : n ≤ 35184372088832) (hlen : xss.flatten.length ≤ 35184372088832) :
    Ct 161 #[.slice A n c] w fun e w' => ∃ g, e = .returned (.slice (some ⟨g, 0, none⟩) 32 32) ∧ w.heap.size ≤ g ∧ ao w' g 256 (cJ (Sha.sum xss.flatten)) ∧ Below w.heap.size w w' := by
  have HA := Lib.hid ha
  clear ha
  go_enter func161, ntmps161
  go_wp2_with (first
    | (go_at_call 184; refine (fp A n c xss _ HA.out Om Om).mono ?_; rintro e w1 ⟨A1, m1, c1, rfl, Vm, Vn⟩
       have Vq := Lib.hid Vm; have Vo := Lib.hid Vn
       have Vr : m1 ≤ 35184372088832 := by have := Vm.len; omega
       clear Vm Vn)
    | (go_at_call 217; refine (Gq A1 m1 c1 xss.flatten _ Vq.out.bs Vr).mono ?_; rintro e w2 ⟨rfl, Vp⟩
       have Vl : Hid (Below w.heap.size w w2) := Vo.out.trans (Vp.mono Vo.out.size)
       clear Vp)
    | refine dv rfl _ rfl _ I7 w2.heap.size rfl ?_
    | refine dS rfl _ (.tmp 3) (.tmp 6) rfl w2.heap.size (cJ (Sha.sum xss.flatten)) rfl rfl _ _ (ao.new w2 _ _) 32 EJ rfl rfl (jT _) ?_)
  go_ret
  exact ⟨w2.heap.size, rfl, Vl.out.size, (ao.new w2 _ _).row _, fv (Vl.out.alloc Vl.out.size _) Vl.out.size _⟩
end
section
open Go.RowKit Tryz
attribute [local irreducible] Y Ef WL WC WK WQ WM cx
theorem copied {g : Nat} {t : TypeId} {w : World} (ks : Lb) (hk : ks.length ≤ 64) (h : ao w g t ((List.replicate 64 (Value.int .u8 0)).toArray.toList.take 0 ++ ks.map bv ++ (List.replicate 64 (Value.int .u8 0)).toArray.toList.drop (0 + (ks.map bv).length)).toArray) :
  ao w g t (cJ (ks ++ fV (64 - ks.length))) := by
 have e : (List.replicate 64 (Value.int .u8 0)).toArray.toList.take 0 ++ ks.map bv ++ (List.replicate 64 (Value.int .u8 0)).toArray.toList.drop (0 + (ks.map bv).length) = (ks ++ fV (64 - ks.length)).map bv := by
  rw [List.toList_toArray, List.take_zero, List.nil_append, List.drop_replicate, List.length_map, Nat.zero_add, List.map_append]
  unfold fV
  rw [List.map_replicate]
  rfl
 rw [e] at h
 exact h
theorem uZ (l : Lb) (c : UInt8) (k : Nat) (hk : k < l.length) : ((l.take k).map (· ^^^ c) ++ l.drop k).set k (l.getD k 0 ^^^ c) = (l.take (k + 1)).map (· ^^^ c) ++ l.drop (k + 1) := by
 have hl : ((l.take k).map (· ^^^ c)).length = k := by simp; omega
 rw [List.set_append_right _ _ Om, hl, Nat.sub_self, List.drop_eq_getElem_cons hk, List.set_cons_zero, List.take_succ_eq_append_getElem hk, List.map_append, List.append_assoc]
 simp [hk]
theorem yu (l : Lb) (c : UInt8) (k : Nat) (hk : k < l.length) : ((l.take k).map (· ^^^ c) ++ l.drop k).getD k 0 = l.getD k 0 := by
 have hl : ((l.take k).map (· ^^^ c)).length = k := by simp; omega
 have h2 := List.getElem?_append_right (l₁ := (l.take k).map (· ^^^ c)) (l₂ := l.drop k) (i := k) Om
 rw [List.getD_eq_getElem?_getD, h2, hl, Nat.sub_self]
 simp [hk]
theorem vc (A : Oa) (n c : Nat) (xs : Lb) (x : UInt8) (w : World) (HA : Bs w A n xs) (hn : n ≤ 35184372088832) :
  Ct 185 #[.slice A n c, .int .u8 (x.toNat : Int)] w fun e w' => ∃ g, e = .returned (.slice (some ⟨g, 0, none⟩) 64 64) ∧ w.heap.size ≤ g ∧ ao w' g 5 (cJ (Mac.held xs x)) ∧ Ext w w' := by
 have Vm : ∀ ks : List UInt8, ks = (if 64 < n then Sha.sum xs else xs) → ks ++ fV (64 - ks.length) = Mac.Fc xs := fun ks h => by rw [h]; unfold Mac.Fc; simp only [HA.1]
 have hx := x.toNat_lt
 obtain ⟨X, hX⟩ : ∃ X, X = Mac.Fc xs := ⟨_, rfl⟩
 have hXl : X.length = 64 := by rw [hX]; exact Mac.kS _
 refine aj 31 func185 rfl rfl rfl rfl ?_
 intro _ hret
 have HK := HA; have E := Ext.refl w
 refine aU ?_
 refine al rfl (fun Vq => ?_) (fun Vq => ?_)
 ·refine aU ?_
  refine af (aB (t := 127) Tn.u (z := .slice none 0 0) Kr rfl rfl rfl rfl rfl) rfl ?_
  rintro _ _ ⟨_, rfl, B1, _, ex⟩
  replace HK := HK.ext ex
  have E1 := ex
  refine aL func161 rfl (sJ _ 1 1 [xs] _ (lH B1 HK) Om (by simp [HA.1]; omega)) ?_
  rintro e _ ⟨_, rfl, _, B2, ex⟩
  replace HK := HK.ext ex
  replace E := E1.tr ex
  replace HK := aZ B2 (Sha.bM _)
  refine aU ?_
  refine af (dn (n := 64) (z := .int .u8 0) (bytes := 1) rfl rfl Tn.u Kr rfl rfl Om Om Om Om) rfl ?_
  rintro _ w3 ⟨g3, rfl, B3, Vn, ex⟩
  replace HK := HK.ext ex
  have Vl : w.heap.size ≤ g3 := Nat.le_trans E.size Vn; replace E := E.tr ex
  refine aU ?_
  refine af (fz rfl rfl Tn.u Kr B3 HK.2 (by rw [List.length_map, HK.1]; rfl) (by rw [List.length_map, HK.1]; simp) aH) rfl ?_
  rintro _ w4 ⟨rfl, B4, cg⟩
  have B5 := copied _ (by rw [HK.1]; omega) B4; rw [Vm _ (by rw [if_pos Om]; simp), ← hX] at B5; have E5 := E.aw cg Vl
  refine aU ?_
  refine aF (fun n' L wr => ∃ k : Nat, L = [(1, .int .u8 (x.toNat : Int)), (5, .slice (some ⟨g3, 0, none⟩) 64 64), (18, .int .i64 64), (19, .int .i64 (k : Int))] ∧ n' = 64 - k ∧ (k ≤ 64 ∧ Ext w wr ∧ ao wr g3 5 (cJ ((X.take k).map (· ^^^ x) ++ X.drop k)))) _ _ ⟨0, rfl, rfl, by omega, E5, by simpa using B5⟩ Ls ?_
  rintro Vr n' L wr ⟨k, rfl, rfl, hk, E6, B6⟩ Vo
  refine aU ?_
  refine al rfl (fun Vp => ?_) (fun Vp => ?_)
  ·have hxk := (X.getD k 0).toNat_lt
   refine au 14 ?_
   refine ak (ah rfl Tn.u rfl (B6.get (by rw [Nat.zero_add, iX So, yu X x k Om]))) ?_
   refine au 1 ?_
   refine ak (bJ rfl rfl (bN Om Om).2.2) ?_
   refine au 1 ?_
   refine af (az rfl rfl rfl Kr B6 (by rw [aW]; simp; omega)) rfl ?_
   rintro _ w5 ⟨rfl, B7, cg⟩
   have B8 := B7.congr (cs' := cJ ((X.take (k + 1)).map (· ^^^ x) ++ X.drop (k + 1))) (by rw [Nat.zero_add, ← uZ X x k Om, ← j3, UInt8.toNat_xor]); have E7 := E6.aw cg Vl
   refine au 7 ?_
   refine ae ?_
   refine Vo _ _ ⟨k + 1, rfl, rfl, by omega, E7, B8⟩ Om Ls
  ·refine aU ?_
   refine hret rfl ?_
   exact ⟨g3, rfl, Vl, B6.congr (by rw [show k = 64 from by omega, List.take_of_length_le Om, List.drop_of_length_le Om, List.append_nil, hX]; rfl), E6⟩
 ·refine aU ?_
  refine af (dn (n := 64) (z := .int .u8 0) (bytes := 1) rfl rfl Tn.u Kr rfl rfl Om Om Om Om) rfl ?_
  rintro _ w3 ⟨g3, rfl, B3, Vn, ex⟩
  replace HK := HK.ext ex
  have Vl : w.heap.size ≤ g3 := Nat.le_trans E.size Vn; replace E := E.tr ex
  refine aU ?_
  refine af (fz rfl rfl Tn.u Kr B3 HK.2 (by rw [List.length_map, HK.1]; exact (Nat.min_eq_left Om).symm) (by rw [List.length_map, HK.1]; simp; omega) aH) rfl ?_
  rintro _ w4 ⟨rfl, B4, cg⟩
  have B5 := copied _ (by rw [HK.1]; omega) B4; rw [Vm _ (by rw [if_neg Om]), ← hX] at B5; have E5 := E.aw cg Vl
  refine aU ?_
  refine aF (fun n' L wr => ∃ k : Nat, L = [(1, .int .u8 (x.toNat : Int)), (5, .slice (some ⟨g3, 0, none⟩) 64 64), (18, .int .i64 64), (19, .int .i64 (k : Int))] ∧ n' = 64 - k ∧ (k ≤ 64 ∧ Ext w wr ∧ ao wr g3 5 (cJ ((X.take k).map (· ^^^ x) ++ X.drop k)))) _ _ ⟨0, rfl, rfl, by omega, E5, by simpa using B5⟩ Ls ?_
  rintro Vr n' L wr ⟨k, rfl, rfl, hk, E6, B6⟩ Vo
  refine aU ?_
  refine al rfl (fun Vp => ?_) (fun Vp => ?_)
  ·have hxk := (X.getD k 0).toNat_lt
   refine au 14 ?_
   refine ak (ah rfl Tn.u rfl (B6.get (by rw [Nat.zero_add, iX So, yu X x k Om]))) ?_
   refine au 1 ?_
   refine ak (bJ rfl rfl (bN Om Om).2.2) ?_
   refine au 1 ?_
   refine af (az rfl rfl rfl Kr B6 (by rw [aW]; simp; omega)) rfl ?_
   rintro _ w5 ⟨rfl, B7, cg⟩
   have B8 := B7.congr (cs' := cJ ((X.take (k + 1)).map (· ^^^ x) ++ X.drop (k + 1))) (by rw [Nat.zero_add, ← uZ X x k Om, ← j3, UInt8.toNat_xor]); have E7 := E6.aw cg Vl
   refine au 7 ?_
   refine ae ?_
   refine Vo _ _ ⟨k + 1, rfl, rfl, by omega, E7, B8⟩ Om Ls
  ·refine aU ?_
   refine hret rfl ?_
   exact ⟨g3, rfl, Vl, B6.congr (by rw [show k = 64 from by omega, List.take_of_length_le Om, List.drop_of_length_le Om, List.append_nil, hX]; rfl), E6⟩
theorem yA (A B : Oa) (n c m d : Nat) (xs : Lb) (xss : List (List UInt8)) (w : World) (HA : Bs w A n xs) (hn : n ≤ 35184372088832) (HB : sN w B m xss) (hm : m ≤ 35184372088832) (hl : xss.flatten.length ≤ 35184372088000) :
  Ct 112 #[.slice A n c, .slice B m d] w fun e w' => ∃ g, e = .returned (.slice (some ⟨g, 0, none⟩) 32 32) ∧ w.heap.size ≤ g ∧ ao w' g 256 (cJ (Mac.tag xs xss.flatten)) ∧ Ext w w' := by
 have E := Ext.refl w
 refine aj 19 func112 rfl rfl rfl rfl ?_
 intro _ hret
 refine aU ?_
 refine aL func185 rfl (vc A n c xs 54 _ HA hn) ?_
 rintro e _ ⟨_, rfl, _, B1, ex⟩
 obtain ⟨HA,HB,E⟩ := bC ex HA HB E
 have H1 := aZ B1 (Mac.fD _ _)
 refine aU ?_
 refine aL func184 rfl (fp B m d xss _ HB Om Om) ?_
 rintro e _ ⟨_, _, _, rfl, O2, ex⟩
 refine aU ?_
 obtain ⟨HA,E,H1⟩ := bC ex HA E H1
 have H2 := O2.bs
 refine af (aB (z := .slice none 0 0) Tn.u Kr rfl rfl rfl rfl rfl) rfl ?_
 rintro _ _ ⟨_, rfl, B3, _, ex⟩
 obtain ⟨HA,E,H1,H2⟩ := bU ex HA E H1 H2
 have S3 := lP B3 H1 H2
 refine aL func184 rfl (fp _ 2 2 [Mac.held xs 54, xss.flatten] _ S3 Om (by simp [Mac.fD]; simp at hl; omega)) ?_
 rintro e _ ⟨_, _, _, rfl, O4, ex⟩
 refine aU ?_
 obtain ⟨HA,E⟩ := aY ex HA E
 have H4 := O4.bs
 refine af (aB (z := .slice none 0 0) Tn.u Kr rfl rfl rfl rfl rfl) rfl ?_
 rintro _ _ ⟨_, rfl, B5, _, ex⟩
 obtain ⟨HA,E,H4⟩ := bC ex HA E H4
 have S5 := lH B5 H4
 refine aL func161 rfl (sJ _ 1 1 _ _ S5 Om (by simp [Mac.fD]; simp at hl; omega)) ?_
 rintro e _ ⟨_, rfl, _, B6, ex⟩
 obtain ⟨HA,E⟩ := aY ex HA E
 have H6 := aZ B6 (Sha.bM _)
 refine aU ?_
 refine aL func185 rfl (vc A n c xs 92 _ HA hn) ?_
 rintro e _ ⟨_, rfl, _, B7, ex⟩
 obtain ⟨E,H6⟩ := aY ex E H6
 have H7 := aZ B7 (Mac.fD _ _)
 refine aU ?_
 refine af (aB (z := .slice none 0 0) Tn.u Kr rfl rfl rfl rfl rfl) rfl ?_
 rintro _ _ ⟨_, rfl, B8, _, ex⟩
 obtain ⟨E,H6,H7⟩ := bC ex E H6 H7
 have S8 := lP B8 H7 H6; have h8 := E.size
 refine aL func161 rfl (sJ _ 2 2 _ _ S8 Om (by simp [Mac.fD, Sha.bM])) ?_
 rintro e _ ⟨g9, rfl, _, B9, ex⟩
 replace E := E.ext ex
 refine aU ?_
 refine hret rfl ?_
 exact ⟨g9, rfl, by omega, B9.congr (by simp [Mac.tag]), E⟩
end
section
open Go.RowKit Tryz
attribute [local irreducible] Y Ef WL WC WK WQ WM cx
theorem xD (ks xs : Lb) (h : ks = if 64 < xs.length then Sha.sum xs else xs) (k : Nat) : (Mac.Fc xs).getD k 0 = ks.getD k 0 := by
 have e : Mac.Fc xs = ks ++ fV (64 - ks.length) := by rw [h]; rfl
 rw [e, List.getD_eq_getElem?_getD, List.getD_eq_getElem?_getD, List.getElem?_append]
 by_cases hk : k < ks.length
 ·simp [hk]
 ·simp only [hk, if_false]
  rw [List.getElem?_eq_none (by omega : ks.length ≤ k)]
  simp [fV, List.getElem?_replicate]
  split <;> simp
theorem fI (X : Lb) (k : Nat) (hk : k < X.length) (c y : UInt8) (hy : X.getD k 0 = y) : (X.take k).map (· ^^^ c) ++ [y ^^^ c] = (X.take (k + 1)).map (· ^^^ c) := by
 rw [List.take_succ_eq_append_getElem hk, List.map_append]
 subst hy
 simp [hk]
theorem qT (A B : Oa) (n c m d : Nat) (xs ys : Lb) (w : World) (HA : Bs w A n xs) (hn : n ≤ 35184372088832) (HB : Bs w B m ys) (hm : m ≤ 35184372088000) :
  Ct 18 #[.slice A n c, .slice B m d] w fun e w' => ∃ A' c', e = .returned (.slice A' 32 c') ∧ Row w' w.heap.size 5 A' 32 c' ((Mac.tag xs ys).map bv) ∧ Ext w w' := by
 have E := Ext.refl w
 obtain ⟨X, hX⟩ : ∃ X, X = Mac.Fc xs := ⟨_, rfl⟩
 have hXl : X.length = 64 := by rw [hX]; exact Mac.kS _
 refine aj 43 func18 rfl rfl rfl rfl ?_
 intro _ hret
 refine aU ?_
 refine al rfl (fun VN => ?_) (fun VN => ?_)
 ·refine aU ?_
  refine aL func52 rfl (fk A n c xs _ HA hn) ?_
  rintro e w1 ⟨A1, c1, rfl, O1, ex⟩
  obtain ⟨HA,HB,E⟩ := bC ex HA HB E
  have HK := O1.bs
  refine aU ?_
  have hks : ∀ k, X.getD k 0 = (Sha.sum xs).getD k 0 := fun k => by rw [hX]; exact xD _ _ (by have := HA.1; split <;> first | rfl | omega) k
  refine aF (fun n' L wr => ∃ (k c5 c6 : Nat) (A5 A6 : Oa), L = [(0, .slice A1 32 c1), (1, .slice B m d), (5, .slice A5 k c5), (6, .slice A6 k c6), (7, .int .i64 (k : Int))] ∧ n' = 64 - k ∧ (k ≤ 64 ∧ Ext w1 wr ∧ Row wr w1.heap.size 5 A5 k c5 (((X.take k).map (· ^^^ 54)).map bv) ∧ Row wr w1.heap.size 5 A6 k c6 (((X.take k).map (· ^^^ 92)).map bv) ∧ Dj A5 A6)) _ _ ⟨0, 0, 0, none, none, rfl, rfl, by omega, Ext.refl _, Row.empty _ _ _, Row.empty _ _ _, Dj.CE _⟩ Ls ?_
  rintro VO n' L wr ⟨k, c5, c6, A5, A6, rfl, rfl, hk, F, R5, R6, hD⟩ Vp
  refine aU ?_
  refine al rfl (fun Vt => ?_) (fun Vt => ?_)
  ·refine au 15 ?_
   refine bH (dU rfl rfl) rfl (fun hlt => ?_) (fun hlt => ?_)
   ·refine au 2 ?_
    refine bP rfl rfl ?_
    obtain ⟨b, off, y, rfl, hy, hcy⟩ := (HK.ext F).byte (k := k) Om
    refine au 4 ?_
    refine ak (ah rfl Tn.u rfl hcy) ?_
    have hyX : X.getD k 0 = y := by rw [hks, hy.out]
    have hyb := (y).toNat_lt
    refine au 7 ?_
    refine ak (bJ rfl rfl (bN (p := (y).toNat) (q := 54) Om Om).2.2) ?_
    refine af (aB (z := .int .u8 0) Tn.u Kr rfl rfl rfl rfl rfl) rfl ?_
    rintro _ w5 ⟨g5, rfl, B5, Vu, ex⟩
    replace F := F.ext ex
    replace R5 := R5.ext ex; replace R6 := R6.ext ex
    refine af (aQ rfl rfl bF R5 (At.fT (vs := [y ^^^ 54].map bv) (B5.congr (by rfl))) rfl aH Om Om F.size) rfl ?_
    rintro _ w6 ⟨A7, c7, rfl, R7, be, gr, hl⟩
    have F6 := F.trans be; have q6 := Row.app R6 hD gr hl R5.eM; have R8 := R7.cat; rw [fI X k Om 54 _ hyX] at R8
    refine au 6 ?_
    refine ak (bJ rfl rfl (bN (p := (y).toNat) (q := 92) Om Om).2.2) ?_
    refine af (aB (z := .int .u8 0) Tn.u Kr rfl rfl rfl rfl rfl) rfl ?_
    rintro _ w7 ⟨g7, rfl, B7, Vv, ex⟩
    replace R8 := R8.ext ex; have R9 := q6.1.ext ex; have F7 := F6.ext ex
    refine af (aQ rfl rfl bF R9 (At.fT (vs := [y ^^^ 92].map bv) (B7.congr (by rfl))) rfl aH Om Om F7.size) rfl ?_
    rintro _ w8 ⟨A9, c9, rfl, Vm, be, gr, hl⟩
    have F8 := F7.trans be; have q8 := Row.app R8 q6.2.symm gr hl R9.eM; have Vl := Vm.cat; rw [fI X k Om 92 _ hyX] at Vl
    refine au 9 ?_
    refine ae ?_
    refine Vp _ _ ⟨k + 1, c7, c9, A7, A9, rfl, rfl, by omega, F8, q8.1, Vl, q8.2.symm⟩ Om Ls
   ·refine au 2 ?_
    refine cm rfl rfl ?_
    refine au 3 ?_
    have hyX : X.getD k 0 = 0 := by rw [hks, List.getD_eq_getElem?_getD, List.getElem?_eq_none (by rw [HK.1]; omega)]; rfl
    have hyb := ((0 : UInt8)).toNat_lt
    refine au 3 ?_
    refine ak (bJ rfl rfl (bN (p := ((0 : UInt8)).toNat) (q := 54) Om Om).2.2) ?_
    refine af (aB (z := .int .u8 0) Tn.u Kr rfl rfl rfl rfl rfl) rfl ?_
    rintro _ w5 ⟨g5, rfl, B5, Vu, ex⟩
    replace F := F.ext ex
    replace R5 := R5.ext ex; replace R6 := R6.ext ex
    refine af (aQ rfl rfl bF R5 (At.fT (vs := [(0 : UInt8) ^^^ 54].map bv) (B5.congr (by rfl))) rfl aH Om Om F.size) rfl ?_
    rintro _ w6 ⟨A7, c7, rfl, R7, be, gr, hl⟩
    have F6 := F.trans be; have q6 := Row.app R6 hD gr hl R5.eM; have R8 := R7.cat; rw [fI X k Om 54 _ hyX] at R8
    refine au 6 ?_
    refine ak (bJ rfl rfl (bN (p := ((0 : UInt8)).toNat) (q := 92) Om Om).2.2) ?_
    refine af (aB (z := .int .u8 0) Tn.u Kr rfl rfl rfl rfl rfl) rfl ?_
    rintro _ w7 ⟨g7, rfl, B7, Vv, ex⟩
    replace R8 := R8.ext ex; have R9 := q6.1.ext ex; have F7 := F6.ext ex
    refine af (aQ rfl rfl bF R9 (At.fT (vs := [(0 : UInt8) ^^^ 92].map bv) (B7.congr (by rfl))) rfl aH Om Om F7.size) rfl ?_
    rintro _ w8 ⟨A9, c9, rfl, Vm, be, gr, hl⟩
    have F8 := F7.trans be; have q8 := Row.app R8 q6.2.symm gr hl R9.eM; have Vl := Vm.cat; rw [fI X k Om 92 _ hyX] at Vl
    refine au 9 ?_
    refine ae ?_
    refine Vp _ _ ⟨k + 1, c7, c9, A7, A9, rfl, rfl, by omega, F8, q8.1, Vl, q8.2.symm⟩ Om Ls
  ·obtain rfl : k = 64 := by omega
   rw [List.take_of_length_le Om, hX] at R5 R6
   have hsF := F.size
   refine aU ?_
   refine af (aQ rfl rfl bF R5 (HB.ext F).2 (by rw [List.length_map, HB.1]) aH Om Om hsF) rfl ?_
   rintro _ VP ⟨Vw, Vx, rfl, Vm, be, gr, hl⟩
   have Vy := F.trans be; have Vl := (Row.app R6 hD gr hl R5.eM).1; have Vz := Vm.cat.bs
   refine aL func52 rfl (fk Vw _ Vx _ _ Vz Om) ?_
   rintro e VQ ⟨VR, VS, rfl, Vq, ex⟩
   refine aU ?_
   have VA := Vl.ext ex; have Vr := Vy.ext ex; have Vn := Vr.size
   refine af (aQ rfl rfl bF VA Vq.bs.2 (by rw [List.length_map]; exact Vq.bs.1) aH Om Om Vn) rfl ?_
   rintro _ VB ⟨VC, VD, rfl, VE, be, gr, hl⟩
   have Vs := Vr.trans be; have VF := VE.cat.bs
   refine aL func52 rfl (fk VC _ VD _ _ VF Om) ?_
   rintro e VG ⟨VH, VI, rfl, VJ, ex⟩
   have VK := Vs.ext ex; have VL := E.ext VK; have Vo : w.heap.size ≤ VB.heap.size := Nat.le_trans E.size Vs.size; have VM : Row VG w.heap.size 5 VH 32 VI _ := Row.lower VJ Vo
   refine aU ?_
   refine hret rfl ?_
   exact ⟨_, _, rfl, VM, VL⟩
 ·have HK := HA
  refine aU ?_
  have hks : ∀ k, X.getD k 0 = xs.getD k 0 := fun k => by rw [hX]; exact xD _ _ (by have := HA.1; split <;> first | rfl | omega) k
  refine aF (fun n' L wr => ∃ (k c5 c6 : Nat) (A5 A6 : Oa), L = [(0, .slice A n c), (1, .slice B m d), (5, .slice A5 k c5), (6, .slice A6 k c6), (7, .int .i64 (k : Int))] ∧ n' = 64 - k ∧ (k ≤ 64 ∧ Ext w wr ∧ Row wr w.heap.size 5 A5 k c5 (((X.take k).map (· ^^^ 54)).map bv) ∧ Row wr w.heap.size 5 A6 k c6 (((X.take k).map (· ^^^ 92)).map bv) ∧ Dj A5 A6)) _ _ ⟨0, 0, 0, none, none, rfl, rfl, by omega, Ext.refl _, Row.empty _ _ _, Row.empty _ _ _, Dj.CE _⟩ Ls ?_
  rintro VO n' L wr ⟨k, c5, c6, A5, A6, rfl, rfl, hk, F, R5, R6, hD⟩ Vp
  refine aU ?_
  refine al rfl (fun Vt => ?_) (fun Vt => ?_)
  ·refine au 15 ?_
   refine bH (dU rfl rfl) rfl (fun hlt => ?_) (fun hlt => ?_)
   ·refine au 2 ?_
    refine bP rfl rfl ?_
    obtain ⟨b, off, y, rfl, hy, hcy⟩ := (HK.ext F).byte (k := k) Om
    refine au 4 ?_
    refine ak (ah rfl Tn.u rfl hcy) ?_
    have hyX : X.getD k 0 = y := by rw [hks, hy.out]
    have hyb := (y).toNat_lt
    refine au 7 ?_
    refine ak (bJ rfl rfl (bN (p := (y).toNat) (q := 54) Om Om).2.2) ?_
    refine af (aB (z := .int .u8 0) Tn.u Kr rfl rfl rfl rfl rfl) rfl ?_
    rintro _ w5 ⟨g5, rfl, B5, Vu, ex⟩
    replace F := F.ext ex
    replace R5 := R5.ext ex; replace R6 := R6.ext ex
    refine af (aQ rfl rfl bF R5 (At.fT (vs := [y ^^^ 54].map bv) (B5.congr (by rfl))) rfl aH Om Om F.size) rfl ?_
    rintro _ w6 ⟨A7, c7, rfl, R7, be, gr, hl⟩
    have F6 := F.trans be; have q6 := Row.app R6 hD gr hl R5.eM; have R8 := R7.cat; rw [fI X k Om 54 _ hyX] at R8
    refine au 6 ?_
    refine ak (bJ rfl rfl (bN (p := (y).toNat) (q := 92) Om Om).2.2) ?_
    refine af (aB (z := .int .u8 0) Tn.u Kr rfl rfl rfl rfl rfl) rfl ?_
    rintro _ w7 ⟨g7, rfl, B7, Vv, ex⟩
    replace R8 := R8.ext ex; have R9 := q6.1.ext ex; have F7 := F6.ext ex
    refine af (aQ rfl rfl bF R9 (At.fT (vs := [y ^^^ 92].map bv) (B7.congr (by rfl))) rfl aH Om Om F7.size) rfl ?_
    rintro _ w8 ⟨A9, c9, rfl, Vm, be, gr, hl⟩
    have F8 := F7.trans be; have q8 := Row.app R8 q6.2.symm gr hl R9.eM; have Vl := Vm.cat; rw [fI X k Om 92 _ hyX] at Vl
    refine au 9 ?_
    refine ae ?_
    refine Vp _ _ ⟨k + 1, c7, c9, A7, A9, rfl, rfl, by omega, F8, q8.1, Vl, q8.2.symm⟩ Om Ls
   ·refine au 2 ?_
    refine cm rfl rfl ?_
    refine au 3 ?_
    have hyX : X.getD k 0 = 0 := by rw [hks, List.getD_eq_getElem?_getD, List.getElem?_eq_none (by rw [HK.1]; omega)]; rfl
    have hyb := ((0 : UInt8)).toNat_lt
    refine au 3 ?_
    refine ak (bJ rfl rfl (bN (p := ((0 : UInt8)).toNat) (q := 54) Om Om).2.2) ?_
    refine af (aB (z := .int .u8 0) Tn.u Kr rfl rfl rfl rfl rfl) rfl ?_
    rintro _ w5 ⟨g5, rfl, B5, Vu, ex⟩
    replace F := F.ext ex
    replace R5 := R5.ext ex; replace R6 := R6.ext ex
    refine af (aQ rfl rfl bF R5 (At.fT (vs := [(0 : UInt8) ^^^ 54].map bv) (B5.congr (by rfl))) rfl aH Om Om F.size) rfl ?_
    rintro _ w6 ⟨A7, c7, rfl, R7, be, gr, hl⟩
    have F6 := F.trans be; have q6 := Row.app R6 hD gr hl R5.eM; have R8 := R7.cat; rw [fI X k Om 54 _ hyX] at R8
    refine au 6 ?_
    refine ak (bJ rfl rfl (bN (p := ((0 : UInt8)).toNat) (q := 92) Om Om).2.2) ?_
    refine af (aB (z := .int .u8 0) Tn.u Kr rfl rfl rfl rfl rfl) rfl ?_
    rintro _ w7 ⟨g7, rfl, B7, Vv, ex⟩
    replace R8 := R8.ext ex; have R9 := q6.1.ext ex; have F7 := F6.ext ex
    refine af (aQ rfl rfl bF R9 (At.fT (vs := [(0 : UInt8) ^^^ 92].map bv) (B7.congr (by rfl))) rfl aH Om Om F7.size) rfl ?_
    rintro _ w8 ⟨A9, c9, rfl, Vm, be, gr, hl⟩
    have F8 := F7.trans be; have q8 := Row.app R8 q6.2.symm gr hl R9.eM; have Vl := Vm.cat; rw [fI X k Om 92 _ hyX] at Vl
    refine au 9 ?_
    refine ae ?_
    refine Vp _ _ ⟨k + 1, c7, c9, A7, A9, rfl, rfl, by omega, F8, q8.1, Vl, q8.2.symm⟩ Om Ls
  ·obtain rfl : k = 64 := by omega
   rw [List.take_of_length_le Om, hX] at R5 R6
   have hsF := F.size
   refine aU ?_
   refine af (aQ rfl rfl bF R5 (HB.ext F).2 (by rw [List.length_map, HB.1]) aH Om Om hsF) rfl ?_
   rintro _ VP ⟨Vw, Vx, rfl, Vm, be, gr, hl⟩
   have Vy := F.trans be; have Vl := (Row.app R6 hD gr hl R5.eM).1; have Vz := Vm.cat.bs
   refine aL func52 rfl (fk Vw _ Vx _ _ Vz Om) ?_
   rintro e VQ ⟨VR, VS, rfl, Vq, ex⟩
   refine aU ?_
   have VA := Vl.ext ex; have Vr := Vy.ext ex; have Vn := Vr.size
   refine af (aQ rfl rfl bF VA Vq.bs.2 (by rw [List.length_map]; exact Vq.bs.1) aH Om Om Vn) rfl ?_
   rintro _ VB ⟨VC, VD, rfl, VE, be, gr, hl⟩
   have Vs := Vr.trans be; have VF := VE.cat.bs
   refine aL func52 rfl (fk VC _ VD _ _ VF Om) ?_
   rintro e VG ⟨VH, VI, rfl, VJ, ex⟩
   have VK := Vs.ext ex; have VL := E.ext VK; have Vo : w.heap.size ≤ VB.heap.size := Nat.le_trans E.size Vs.size; have VM : Row VG w.heap.size 5 VH 32 VI _ := Row.lower VJ Vo
   refine aU ?_
   refine hret rfl ?_
   exact ⟨_, _, rfl, VM, VL⟩
end
end Go.Proofs.YtgfafidlkldeaaaGreat
