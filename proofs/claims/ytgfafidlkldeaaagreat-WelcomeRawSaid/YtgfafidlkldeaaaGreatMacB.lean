/- The reference's tag, and which tags are right. Lengths up to 2^45. -/
import Derived.Test.YtgfafidlkldeaaaGreatShaR
import Derived.Test.YtgfafidlkldeaaaGreatSha5
import Derived.Test.YtgfafidlkldeaaaGreatSl
import Derived.Test.YtgfafidlkldeaaaGreatAu
set_option linter.unusedVariables false
set_option linter.unusedSimpArgs false
set_option maxHeartbeats 4000000
set_option maxRecDepth 4000
namespace Go.Proofs.YtgfafidlkldeaaaGreat
section
open Go.RowKit Tryz
set_option maxRecDepth 100000 in
theorem BK (w : World) : Ct 120 #[] w fun e w' => ∃ g1 g2, e = .returned (.tuple #[.slice (some ⟨g1, 0, none⟩) 8 8, .slice (some ⟨g2, 0, none⟩) 64 64]) ∧ Ns .u64 w' (some ⟨g1, 0, none⟩) 8 Sha.H0 ∧ Ns .u64 w' (some ⟨g2, 0, none⟩) 64 Sha.K ∧ Below w.heap.size w w' := by
 go_enter func120, ntmps120
 go_wp2
 go_ret2
 refine ⟨_, _, rfl, ?_, ?_, ((Below.refl _ _).alloc (Nat.le_refl _) _).alloc (by simp) _⟩
 ·refine Ns.below (w := w.alloc _) ?_ ((Below.refl _ _).alloc (Nat.le_refl _) _)
  exact Lu (w := w) Sha.H0 _ rfl rfl
 ·have h := Lu (w := w.alloc (.cells (aN .u64 Sha.H0) 38)) (t := 38) (k := .u64) Sha.K (aN .u64 Sha.K) rfl rfl (n := 64)
  rw [World.size_alloc] at h
  exact h
theorem eY (A : Oa) (n c : Nat) (xs : Lb) (w : World) (ha : Bs w A n xs) (hn : n ≤ 35184372088832) :
    Ct 52 #[.slice A n c] w fun e w' => ∃ A' c', e = .returned (.slice A' 32 c') ∧ Own w' w.heap.size A' 32 c' (Sha.sum xs) ∧ Below w.heap.size w w' := by
  have HA := Lib.hid ha
  clear ha
  go_enter func52, ntmps52
  go_wp2_with (first
    | (go_at_call 120; refine (BK _).mono ?_; rintro e w1 ⟨g1, g2, rfl, h1, h2, Vx⟩
       have H1 := Lib.hid h1; have H2 := Lib.hid h2; have Vw := Lib.hid Vx
       clear h1 h2 Vx)
    | (go_at_call 121; refine (Ey A _ _ n c _ _ xs _ (HA.out.below Vw.out) hn H1.out H2.out).mono ?_; rintro e w2 ⟨A2, c2, rfl, Vy, Vz⟩
       have VA := Lib.hid Vy
       have VB : Hid (Below w.heap.size w w2) := Vw.out.trans (Vz.mono Vw.out.size)
       have VC := Vw.out.size
       clear Vy Vz))
  go_ret
  exact ⟨A2, c2, rfl, VA.out.lower VC, VB.out⟩
theorem tN (A : Oa) (n c : Nat) (xss : List (List UInt8)) (w : World) (ha : pK w A n xss) (hn : n ≤ 35184372088832) (hlen : xss.flatten.length ≤ 35184372088832) :
    Ct 161 #[.slice A n c] w fun e w' => ∃ g, e = .returned (.slice (some ⟨g, 0, none⟩) 32 32) ∧ w.heap.size ≤ g ∧ ao w' g 256 (cT (Sha.sum xss.flatten)) ∧ Below w.heap.size w w' := by
  have HA := Lib.hid ha
  clear ha
  go_enter func161, ntmps161
  go_wp2_with (first
    | (go_at_call 184; refine (fR A n c xss _ HA.out Om Om).mono ?_; rintro e w1 ⟨A1, m1, c1, rfl, Vx, Vy⟩
       have VB := Lib.hid Vx; have Vz := Lib.hid Vy
       have VC : m1 ≤ 35184372088832 := by have := Vx.len; omega
       clear Vx Vy)
    | (go_at_call 217; refine (IB A1 m1 c1 xss.flatten _ VB.out.bs VC).mono ?_; rintro e w2 ⟨rfl, VA⟩
       have Vw : Hid (Below w.heap.size w w2) := Vz.out.trans (VA.mono Vz.out.size)
       clear VA)
    | refine dC rfl _ rfl _ M7 w2.heap.size rfl ?_
    | refine eD rfl _ (.tmp 3) (.tmp 6) rfl w2.heap.size (cT (Sha.sum xss.flatten)) rfl rfl _ _ (ao.new w2 _ _) 32 IY rfl rfl (lx _) ?_)
  go_ret
  exact ⟨w2.heap.size, rfl, Vw.out.size, (ao.new w2 _ _).row _, fU (Vw.out.alloc Vw.out.size _) Vw.out.size _⟩
end
section
open Go.RowKit Tryz
attribute [local irreducible] Y Ef WL WC WK WQ WM cE
theorem xor_zero (a b : Nat) : a ^^^ b = 0 ↔ a = b := by
 constructor
 ·intro h
  have : (a ^^^ b) ^^^ b = 0 ^^^ b := by rw [h]
  rw [Nat.xor_assoc, Nat.xor_self] at this
  simpa using this
 ·rintro rfl; simp
theorem tY {xs ys : Lb} {n k d : Nat} (hx : xs.length = n) (hy : ys.length = n) (hk : k < n) (h : d = 0 ↔ xs.take k = ys.take k) :
  (d ||| ((xs.getD k 0).toNat ^^^ (ys.getD k 0).toNat) = 0) ↔ xs.take (k + 1) = ys.take (k + 1) := by
 rw [List.take_succ_eq_append_getElem Om, List.take_succ_eq_append_getElem Om]
 have e1 : xs.getD k 0 = xs[k] := by simp [show k < xs.length by omega]
 have e2 : ys.getD k 0 = ys[k] := by simp [show k < ys.length by omega]
 rw [e1, e2, Nat.or_eq_zero_iff, h, xor_zero]
 constructor
 ·rintro ⟨h1, h2⟩
  rw [h1, UInt8.toNat_inj.1 h2]
 ·intro hh
  have := List.append_inj hh So
  exact ⟨this.1, by have := this.2; simp at this; rw [this]⟩
theorem vQ (A B : Oa) (n m c d : Nat) (xs ys : Lb) (w : World) (HA : Bs w A n xs) (HB : Bs w B m ys) (hn : n ≤ 140737488355328) (hm : m ≤ 140737488355328) :
  Ct 44 #[.slice A n c, .slice B m d] w fun e w' => e = .returned (.bool (decide (xs = ys))) ∧ Ext w w' := by
 refine ai 31 func44 rfl rfl rfl rfl ?_
 intro _ hret
 refine aU ?_
 refine al rfl (fun Vw => ?_) (fun Vw => ?_)
 ·refine aU ?_
  refine hret rfl ?_
  exact ⟨by rw [decide_eq_false]; intro h; exact Vw (by rw [← HA.1, ← HB.1, h]), Ext.refl _⟩
 ·have hnm : n = m := by omega
  refine aU ?_
  refine az (fun n' L wr => ∃ k D : Nat, L = [(0, .slice A n c), (1, .slice B m d), (5, .int .u8 (D : Int)), (13, .int .i64 (n : Int)), (14, .int .i64 (k : Int))] ∧ n' = n - k ∧ (k ≤ n ∧ D < 256 ∧ Ext w wr ∧ (D = 0 ↔ xs.take k = ys.take k))) _ _ ⟨0, 0, rfl, rfl, Nat.zero_le _, by omega, Ext.refl _, by simp⟩ Ls ?_
  rintro _ n' L wr ⟨k, D, rfl, rfl, _, hD, E, hI⟩ Vx
  refine aU ?_
  refine al rfl (fun Vy => ?_) (fun Vy => ?_)
  ·refine aU ?_
   obtain ⟨b, off, x, rfl, hx, hcx⟩ := (HA.ext E).byte (k := k) Om
   obtain ⟨b', Vz, y, rfl, hy, hcy⟩ := (HB.ext E).byte (k := k) Om
   refine aC Kr 12 rfl ?_; intro VC ex VD
   have VA := x.toNat_lt; have VB := y.toNat_lt
   replace hcx := (ex.cell (eL hcx)).trans hcx; replace hcy := (ex.cell (eL hcy)).trans hcy
   refine zm [0, 1, 2, 3] ?_
   refine my 4 rfl (af rfl Tn.u rfl hcx) ?_
   refine zm [5, 6, 7] ?_
   refine my 8 rfl (af rfl Tn.u rfl hcy) ?_
   refine my 9 rfl (bI rfl rfl (bE Om Om).2.2) ?_
   have hxl := Nat.xor_lt_two_pow (n := 8) VA VB; have hlt := Nat.or_lt_two_pow (n := 8) hD hxl
   refine my 10 rfl (iH rfl rfl (bE Om Om).2.1) ?_
   refine C8 [11] ?_
   refine au 10 ?_
   refine ae ?_
   refine Vx _ _ ⟨k + 1, _, rfl, rfl, by omega, hlt, E.tr ex, by rw [hx.out, hy.out]; exact tY HA.1 (by rw [HB.1, hnm]) Om hI⟩ Om Ls
  ·refine aU ?_
   refine hret rfl ?_
   exact ⟨cV (by rw [List.take_of_length_le (by rw [HA.1]; omega), List.take_of_length_le (by rw [HB.1]; omega)] at hI; rw [← hI]; omega), E⟩
theorem copied {g : Nat} {t : TypeId} {w : World} (ks : Lb) (hk : ks.length ≤ 64) (h : ao w g t ((List.replicate 64 (Value.int .u8 0)).toArray.toList.take 0 ++ ks.map bv ++ (List.replicate 64 (Value.int .u8 0)).toArray.toList.drop (0 + (ks.map bv).length)).toArray) :
  ao w g t (cT (ks ++ gD (64 - ks.length))) := by
 have e : (List.replicate 64 (Value.int .u8 0)).toArray.toList.take 0 ++ ks.map bv ++ (List.replicate 64 (Value.int .u8 0)).toArray.toList.drop (0 + (ks.map bv).length) = (ks ++ gD (64 - ks.length)).map bv := by
  rw [List.toList_toArray, List.take_zero, List.nil_append, List.drop_replicate, List.length_map, Nat.zero_add, List.map_append]
  unfold gD
  rw [List.map_replicate]
  rfl
 rw [e] at h
 exact h
theorem vG (l : Lb) (c : UInt8) (k : Nat) (hk : k < l.length) : ((l.take k).map (· ^^^ c) ++ l.drop k).set k (l.getD k 0 ^^^ c) = (l.take (k + 1)).map (· ^^^ c) ++ l.drop (k + 1) := by
 have hl : ((l.take k).map (· ^^^ c)).length = k := by simp; omega
 rw [List.set_append_right _ _ Om, hl, Nat.sub_self, List.drop_eq_getElem_cons hk, List.set_cons_zero, List.take_succ_eq_append_getElem hk, List.map_append, List.append_assoc]
 simp [hk]
theorem AV (l : Lb) (c : UInt8) (k : Nat) (hk : k < l.length) : ((l.take k).map (· ^^^ c) ++ l.drop k).getD k 0 = l.getD k 0 := by
 have hl : ((l.take k).map (· ^^^ c)).length = k := by simp; omega
 have h2 := List.getElem?_append_right (l₁ := (l.take k).map (· ^^^ c)) (l₂ := l.drop k) (i := k) Om
 rw [List.getD_eq_getElem?_getD, h2, hl, Nat.sub_self]
 simp [hk]
theorem xg (A : Oa) (n c : Nat) (xs : Lb) (x : UInt8) (w : World) (HA : Bs w A n xs) (hn : n ≤ 35184372088832) :
  Ct 185 #[.slice A n c, .int .u8 (x.toNat : Int)] w fun e w' => ∃ g, e = .returned (.slice (some ⟨g, 0, none⟩) 64 64) ∧ w.heap.size ≤ g ∧ ao w' g 5 (cT (Mac.held xs x)) ∧ Ext w w' := by
 have Vx : ∀ ks : List UInt8, ks = (if 64 < n then Sha.sum xs else xs) → ks ++ gD (64 - ks.length) = Mac.Jp xs := fun ks h => by rw [h]; unfold Mac.Jp; simp only [HA.1]
 have hx := x.toNat_lt
 obtain ⟨X, hX⟩ : ∃ X, X = Mac.Jp xs := ⟨_, rfl⟩
 have hXl : X.length = 64 := by rw [hX]; exact Mac.mo _
 refine ai 31 func185 rfl rfl rfl rfl ?_
 intro _ hret
 have HK := HA; have E := Ext.refl w
 refine aU ?_
 refine al rfl (fun VB => ?_) (fun VB => ?_)
 ·refine aU ?_
  refine ag (aK (t := 127) Tn.u (z := .slice none 0 0) Kr rfl rfl rfl rfl rfl) rfl ?_
  rintro _ _ ⟨_, rfl, B1, _, ex⟩
  replace HK := HK.ext ex
  have E1 := ex
  refine aB func161 rfl (tN _ 1 1 [xs] _ (kQ B1 HK) Om (by simp [HA.1]; omega)) ?_
  rintro e _ ⟨_, rfl, _, B2, ex⟩
  replace HK := HK.ext ex
  replace E := E1.tr ex
  replace HK := bw B2 (Sha.bP _)
  refine aU ?_
  refine ag (du (n := 64) (z := .int .u8 0) (bytes := 1) rfl rfl Tn.u Kr rfl rfl Om Om Om Om) rfl ?_
  rintro _ w3 ⟨g3, rfl, B3, Vy, ex⟩
  replace HK := HK.ext ex
  have Vw : w.heap.size ≤ g3 := Nat.le_trans E.size Vy; replace E := E.tr ex
  refine aU ?_
  refine ag (fT rfl rfl Tn.u Kr B3 HK.2 (by rw [List.length_map, HK.1]; rfl) (by rw [List.length_map, HK.1]; simp) aM) rfl ?_
  rintro _ w4 ⟨rfl, B4, cg⟩
  have B5 := copied _ (by rw [HK.1]; omega) B4; rw [Vx _ (by rw [if_pos Om]; simp), ← hX] at B5; have E5 := E.aE cg Vw
  refine aU ?_
  refine az (fun n' L wr => ∃ k : Nat, L = [(1, .int .u8 (x.toNat : Int)), (5, .slice (some ⟨g3, 0, none⟩) 64 64), (18, .int .i64 64), (19, .int .i64 (k : Int))] ∧ n' = 64 - k ∧ (k ≤ 64 ∧ Ext w wr ∧ ao wr g3 5 (cT ((X.take k).map (· ^^^ x) ++ X.drop k)))) _ _ ⟨0, rfl, rfl, by omega, E5, by simpa using B5⟩ Ls ?_
  rintro VC n' L wr ⟨k, rfl, rfl, hk, E6, B6⟩ Vz
  refine aU ?_
  refine al rfl (fun VA => ?_) (fun VA => ?_)
  ·have hxk := (X.getD k 0).toNat_lt
   refine au 14 ?_
   refine ak (af rfl Tn.u rfl (B6.get (by rw [Nat.zero_add, jU So, AV X x k Om]))) ?_
   refine au 1 ?_
   refine ak (bI rfl rfl (bE Om Om).2.2) ?_
   refine au 1 ?_
   refine ag (av rfl rfl rfl Kr B6 (by rw [aW]; simp; omega)) rfl ?_
   rintro _ w5 ⟨rfl, B7, cg⟩
   have B8 := B7.congr (cs' := cT ((X.take (k + 1)).map (· ^^^ x) ++ X.drop (k + 1))) (by rw [Nat.zero_add, ← vG X x k Om, ← lu, UInt8.toNat_xor]); have E7 := E6.aE cg Vw
   refine au 7 ?_
   refine ae ?_
   refine Vz _ _ ⟨k + 1, rfl, rfl, by omega, E7, B8⟩ Om Ls
  ·refine aU ?_
   refine hret rfl ?_
   exact ⟨g3, rfl, Vw, B6.congr (by rw [show k = 64 from by omega, List.take_of_length_le Om, List.drop_of_length_le Om, List.append_nil, hX]; rfl), E6⟩
 ·refine aU ?_
  refine ag (du (n := 64) (z := .int .u8 0) (bytes := 1) rfl rfl Tn.u Kr rfl rfl Om Om Om Om) rfl ?_
  rintro _ w3 ⟨g3, rfl, B3, Vy, ex⟩
  replace HK := HK.ext ex
  have Vw : w.heap.size ≤ g3 := Nat.le_trans E.size Vy; replace E := E.tr ex
  refine aU ?_
  refine ag (fT rfl rfl Tn.u Kr B3 HK.2 (by rw [List.length_map, HK.1]; exact (Nat.min_eq_left Om).symm) (by rw [List.length_map, HK.1]; simp; omega) aM) rfl ?_
  rintro _ w4 ⟨rfl, B4, cg⟩
  have B5 := copied _ (by rw [HK.1]; omega) B4; rw [Vx _ (by rw [if_neg Om]), ← hX] at B5; have E5 := E.aE cg Vw
  refine aU ?_
  refine az (fun n' L wr => ∃ k : Nat, L = [(1, .int .u8 (x.toNat : Int)), (5, .slice (some ⟨g3, 0, none⟩) 64 64), (18, .int .i64 64), (19, .int .i64 (k : Int))] ∧ n' = 64 - k ∧ (k ≤ 64 ∧ Ext w wr ∧ ao wr g3 5 (cT ((X.take k).map (· ^^^ x) ++ X.drop k)))) _ _ ⟨0, rfl, rfl, by omega, E5, by simpa using B5⟩ Ls ?_
  rintro VC n' L wr ⟨k, rfl, rfl, hk, E6, B6⟩ Vz
  refine aU ?_
  refine al rfl (fun VA => ?_) (fun VA => ?_)
  ·have hxk := (X.getD k 0).toNat_lt
   refine au 14 ?_
   refine ak (af rfl Tn.u rfl (B6.get (by rw [Nat.zero_add, jU So, AV X x k Om]))) ?_
   refine au 1 ?_
   refine ak (bI rfl rfl (bE Om Om).2.2) ?_
   refine au 1 ?_
   refine ag (av rfl rfl rfl Kr B6 (by rw [aW]; simp; omega)) rfl ?_
   rintro _ w5 ⟨rfl, B7, cg⟩
   have B8 := B7.congr (cs' := cT ((X.take (k + 1)).map (· ^^^ x) ++ X.drop (k + 1))) (by rw [Nat.zero_add, ← vG X x k Om, ← lu, UInt8.toNat_xor]); have E7 := E6.aE cg Vw
   refine au 7 ?_
   refine ae ?_
   refine Vz _ _ ⟨k + 1, rfl, rfl, by omega, E7, B8⟩ Om Ls
  ·refine aU ?_
   refine hret rfl ?_
   exact ⟨g3, rfl, Vw, B6.congr (by rw [show k = 64 from by omega, List.take_of_length_le Om, List.drop_of_length_le Om, List.append_nil, hX]; rfl), E6⟩
theorem uI (A B : Oa) (n c m d : Nat) (xs : Lb) (xss : List (List UInt8)) (w : World) (HA : Bs w A n xs) (hn : n ≤ 35184372088832) (HB : pK w B m xss) (hm : m ≤ 35184372088832) (hl : xss.flatten.length ≤ 35184372088000) :
  Ct 112 #[.slice A n c, .slice B m d] w fun e w' => ∃ g, e = .returned (.slice (some ⟨g, 0, none⟩) 32 32) ∧ w.heap.size ≤ g ∧ ao w' g 256 (cT (Mac.tag xs xss.flatten)) ∧ Ext w w' := by
 have E := Ext.refl w
 refine ai 19 func112 rfl rfl rfl rfl ?_
 intro _ hret
 refine aU ?_
 refine aB func185 rfl (xg A n c xs 54 _ HA hn) ?_
 rintro e _ ⟨_, rfl, _, B1, ex⟩
 obtain ⟨HA,HB,E⟩ := bC ex HA HB E
 have H1 := bw B1 (Mac.fZ _ _)
 refine aU ?_
 refine aB func184 rfl (fR B m d xss _ HB Om Om) ?_
 rintro e _ ⟨_, _, _, rfl, O2, ex⟩
 refine aU ?_
 obtain ⟨HA,E,H1⟩ := bC ex HA E H1
 have H2 := O2.bs
 refine ag (aK (z := .slice none 0 0) Tn.u Kr rfl rfl rfl rfl rfl) rfl ?_
 rintro _ _ ⟨_, rfl, B3, _, ex⟩
 obtain ⟨HA,E,H1,H2⟩ := bO ex HA E H1 H2
 have S3 := mM B3 H1 H2
 refine aB func184 rfl (fR _ 2 2 [Mac.held xs 54, xss.flatten] _ S3 Om (by simp [Mac.fZ]; simp at hl; omega)) ?_
 rintro e _ ⟨_, _, _, rfl, O4, ex⟩
 refine aU ?_
 obtain ⟨HA,E⟩ := ba ex HA E
 have H4 := O4.bs
 refine ag (aK (z := .slice none 0 0) Tn.u Kr rfl rfl rfl rfl rfl) rfl ?_
 rintro _ _ ⟨_, rfl, B5, _, ex⟩
 obtain ⟨HA,E,H4⟩ := bC ex HA E H4
 have S5 := kQ B5 H4
 refine aB func161 rfl (tN _ 1 1 _ _ S5 Om (by simp [Mac.fZ]; simp at hl; omega)) ?_
 rintro e _ ⟨_, rfl, _, B6, ex⟩
 obtain ⟨HA,E⟩ := ba ex HA E
 have H6 := bw B6 (Sha.bP _)
 refine aU ?_
 refine aB func185 rfl (xg A n c xs 92 _ HA hn) ?_
 rintro e _ ⟨_, rfl, _, B7, ex⟩
 obtain ⟨E,H6⟩ := ba ex E H6
 have H7 := bw B7 (Mac.fZ _ _)
 refine aU ?_
 refine ag (aK (z := .slice none 0 0) Tn.u Kr rfl rfl rfl rfl rfl) rfl ?_
 rintro _ _ ⟨_, rfl, B8, _, ex⟩
 obtain ⟨E,H6,H7⟩ := bC ex E H6 H7
 have S8 := mM B8 H7 H6; have h8 := E.size
 refine aB func161 rfl (tN _ 2 2 _ _ S8 Om (by simp [Mac.fZ, Sha.bP])) ?_
 rintro e _ ⟨g9, rfl, _, B9, ex⟩
 replace E := E.ext ex
 refine aU ?_
 refine hret rfl ?_
 exact ⟨g9, rfl, by omega, B9.congr (by simp [Mac.tag]), E⟩
end
section
open Go.RowKit Tryz
attribute [local irreducible] Y Ef WL WC WK WQ WM cE
theorem Ar (ks xs : Lb) (h : ks = if 64 < xs.length then Sha.sum xs else xs) (k : Nat) : (Mac.Jp xs).getD k 0 = ks.getD k 0 := by
 have e : Mac.Jp xs = ks ++ gD (64 - ks.length) := by rw [h]; rfl
 rw [e, List.getD_eq_getElem?_getD, List.getD_eq_getElem?_getD, List.getElem?_append]
 by_cases hk : k < ks.length
 ·simp [hk]
 ·simp only [hk, if_false]
  rw [List.getElem?_eq_none (by omega : ks.length ≤ k)]
  simp [gD, List.getElem?_replicate]
  split <;> simp
theorem gl (X : Lb) (k : Nat) (hk : k < X.length) (c y : UInt8) (hy : X.getD k 0 = y) : (X.take k).map (· ^^^ c) ++ [y ^^^ c] = (X.take (k + 1)).map (· ^^^ c) := by
 rw [List.take_succ_eq_append_getElem hk, List.map_append]
 subst hy
 simp [hk]
theorem lr (A B : Oa) (n c m d : Nat) (xs ys : Lb) (w : World) (HA : Bs w A n xs) (hn : n ≤ 35184372088832) (HB : Bs w B m ys) (hm : m ≤ 35184372088000) :
  Ct 18 #[.slice A n c, .slice B m d] w fun e w' => ∃ A' c', e = .returned (.slice A' 32 c') ∧ Row w' w.heap.size 5 A' 32 c' ((Mac.tag xs ys).map bv) ∧ Ext w w' := by
 have E := Ext.refl w
 obtain ⟨X, hX⟩ : ∃ X, X = Mac.Jp xs := ⟨_, rfl⟩
 have hXl : X.length = 64 := by rw [hX]; exact Mac.mo _
 refine ai 43 func18 rfl rfl rfl rfl ?_
 intro _ hret
 refine aU ?_
 refine al rfl (fun VX => ?_) (fun VX => ?_)
 ·refine aU ?_
  refine aB func52 rfl (eY A n c xs _ HA hn) ?_
  rintro e w1 ⟨A1, c1, rfl, O1, ex⟩
  obtain ⟨HA,HB,E⟩ := bC ex HA HB E
  have HK := O1.bs
  refine aU ?_
  have hks : ∀ k, X.getD k 0 = (Sha.sum xs).getD k 0 := fun k => by rw [hX]; exact Ar _ _ (by have := HA.1; split <;> first | rfl | omega) k
  refine az (fun n' L wr => ∃ (k c5 c6 : Nat) (A5 A6 : Oa), L = [(0, .slice A1 32 c1), (1, .slice B m d), (5, .slice A5 k c5), (6, .slice A6 k c6), (7, .int .i64 (k : Int))] ∧ n' = 64 - k ∧ (k ≤ 64 ∧ Ext w1 wr ∧ Row wr w1.heap.size 5 A5 k c5 (((X.take k).map (· ^^^ 54)).map bv) ∧ Row wr w1.heap.size 5 A6 k c6 (((X.take k).map (· ^^^ 92)).map bv) ∧ Dj A5 A6)) _ _ ⟨0, 0, 0, none, none, rfl, rfl, by omega, Ext.refl _, Row.empty _ _ _, Row.empty _ _ _, Dj.GX _⟩ Ls ?_
  rintro VY n' L wr ⟨k, c5, c6, A5, A6, rfl, rfl, hk, F, R5, R6, hD⟩ VA
  refine aU ?_
  refine al rfl (fun VE => ?_) (fun VE => ?_)
  ·refine au 15 ?_
   refine aR (dA rfl rfl) rfl (fun hlt => ?_) (fun hlt => ?_)
   ·refine au 2 ?_
    refine bR rfl rfl ?_
    obtain ⟨b, off, y, rfl, hy, hcy⟩ := (HK.ext F).byte (k := k) Om
    refine au 4 ?_
    refine ak (af rfl Tn.u rfl hcy) ?_
    have hyX : X.getD k 0 = y := by rw [hks, hy.out]
    have hyb := (y).toNat_lt
    refine au 7 ?_
    refine ak (bI rfl rfl (bE (p := (y).toNat) (q := 54) Om Om).2.2) ?_
    refine ag (aK (z := .int .u8 0) Tn.u Kr rfl rfl rfl rfl rfl) rfl ?_
    rintro _ w5 ⟨g5, rfl, B5, VF, ex⟩
    replace F := F.ext ex
    replace R5 := R5.ext ex; replace R6 := R6.ext ex
    refine ag (bd rfl rfl cB R5 (At.gX (vs := [y ^^^ 54].map bv) (B5.congr (by rfl))) rfl aM Om Om F.size) rfl ?_
    rintro _ w6 ⟨A7, c7, rfl, R7, be, gr, hl⟩
    have F6 := F.trans be; have q6 := Row.app R6 hD gr hl R5.fG; have R8 := R7.cat; rw [gl X k Om 54 _ hyX] at R8
    refine au 6 ?_
    refine ak (bI rfl rfl (bE (p := (y).toNat) (q := 92) Om Om).2.2) ?_
    refine ag (aK (z := .int .u8 0) Tn.u Kr rfl rfl rfl rfl rfl) rfl ?_
    rintro _ w7 ⟨g7, rfl, B7, VG, ex⟩
    replace R8 := R8.ext ex; have R9 := q6.1.ext ex; have F7 := F6.ext ex
    refine ag (bd rfl rfl cB R9 (At.gX (vs := [y ^^^ 92].map bv) (B7.congr (by rfl))) rfl aM Om Om F7.size) rfl ?_
    rintro _ w8 ⟨A9, c9, rfl, Vx, be, gr, hl⟩
    have F8 := F7.trans be; have q8 := Row.app R8 q6.2.symm gr hl R9.fG; have Vw := Vx.cat; rw [gl X k Om 92 _ hyX] at Vw
    refine au 9 ?_
    refine ae ?_
    refine VA _ _ ⟨k + 1, c7, c9, A7, A9, rfl, rfl, by omega, F8, q8.1, Vw, q8.2.symm⟩ Om Ls
   ·refine au 2 ?_
    refine aX rfl rfl ?_
    refine au 3 ?_
    have hyX : X.getD k 0 = 0 := by rw [hks, List.getD_eq_getElem?_getD, List.getElem?_eq_none (by rw [HK.1]; omega)]; rfl
    have hyb := ((0 : UInt8)).toNat_lt
    refine au 3 ?_
    refine ak (bI rfl rfl (bE (p := ((0 : UInt8)).toNat) (q := 54) Om Om).2.2) ?_
    refine ag (aK (z := .int .u8 0) Tn.u Kr rfl rfl rfl rfl rfl) rfl ?_
    rintro _ w5 ⟨g5, rfl, B5, VF, ex⟩
    replace F := F.ext ex
    replace R5 := R5.ext ex; replace R6 := R6.ext ex
    refine ag (bd rfl rfl cB R5 (At.gX (vs := [(0 : UInt8) ^^^ 54].map bv) (B5.congr (by rfl))) rfl aM Om Om F.size) rfl ?_
    rintro _ w6 ⟨A7, c7, rfl, R7, be, gr, hl⟩
    have F6 := F.trans be; have q6 := Row.app R6 hD gr hl R5.fG; have R8 := R7.cat; rw [gl X k Om 54 _ hyX] at R8
    refine au 6 ?_
    refine ak (bI rfl rfl (bE (p := ((0 : UInt8)).toNat) (q := 92) Om Om).2.2) ?_
    refine ag (aK (z := .int .u8 0) Tn.u Kr rfl rfl rfl rfl rfl) rfl ?_
    rintro _ w7 ⟨g7, rfl, B7, VG, ex⟩
    replace R8 := R8.ext ex; have R9 := q6.1.ext ex; have F7 := F6.ext ex
    refine ag (bd rfl rfl cB R9 (At.gX (vs := [(0 : UInt8) ^^^ 92].map bv) (B7.congr (by rfl))) rfl aM Om Om F7.size) rfl ?_
    rintro _ w8 ⟨A9, c9, rfl, Vx, be, gr, hl⟩
    have F8 := F7.trans be; have q8 := Row.app R8 q6.2.symm gr hl R9.fG; have Vw := Vx.cat; rw [gl X k Om 92 _ hyX] at Vw
    refine au 9 ?_
    refine ae ?_
    refine VA _ _ ⟨k + 1, c7, c9, A7, A9, rfl, rfl, by omega, F8, q8.1, Vw, q8.2.symm⟩ Om Ls
  ·obtain rfl : k = 64 := by omega
   rw [List.take_of_length_le Om, hX] at R5 R6
   have hsF := F.size
   refine aU ?_
   refine ag (bd rfl rfl cB R5 (HB.ext F).2 (by rw [List.length_map, HB.1]) aM Om Om hsF) rfl ?_
   rintro _ VZ ⟨VH, c10, rfl, Vx, be, gr, hl⟩
   have VI := F.trans be; have Vw := (Row.app R6 hD gr hl R5.fG).1; have VJ := Vx.cat.bs
   refine aB func52 rfl (eY VH _ c10 _ _ VJ Om) ?_
   rintro e V0 ⟨V4, c11, rfl, VB, ex⟩
   refine aU ?_
   have VK := Vw.ext ex; have VC := VI.ext ex; have Vy := VC.size
   refine ag (bd rfl rfl cB VK VB.bs.2 (by rw [List.length_map]; exact VB.bs.1) aM Om Om Vy) rfl ?_
   rintro _ VL ⟨VM, VN, rfl, VO, be, gr, hl⟩
   have VD := VC.trans be; have VP := VO.cat.bs
   refine aB func52 rfl (eY VM _ VN _ _ VP Om) ?_
   rintro e VQ ⟨VR, VS, rfl, VT, ex⟩
   have VU := VD.ext ex; have VV := E.ext VU; have Vz : w.heap.size ≤ VL.heap.size := Nat.le_trans E.size VD.size; have VW : Row VQ w.heap.size 5 VR 32 VS _ := Row.lower VT Vz
   refine aU ?_
   refine hret rfl ?_
   exact ⟨_, _, rfl, VW, VV⟩
 ·have HK := HA
  refine aU ?_
  have hks : ∀ k, X.getD k 0 = xs.getD k 0 := fun k => by rw [hX]; exact Ar _ _ (by have := HA.1; split <;> first | rfl | omega) k
  refine az (fun n' L wr => ∃ (k c5 c6 : Nat) (A5 A6 : Oa), L = [(0, .slice A n c), (1, .slice B m d), (5, .slice A5 k c5), (6, .slice A6 k c6), (7, .int .i64 (k : Int))] ∧ n' = 64 - k ∧ (k ≤ 64 ∧ Ext w wr ∧ Row wr w.heap.size 5 A5 k c5 (((X.take k).map (· ^^^ 54)).map bv) ∧ Row wr w.heap.size 5 A6 k c6 (((X.take k).map (· ^^^ 92)).map bv) ∧ Dj A5 A6)) _ _ ⟨0, 0, 0, none, none, rfl, rfl, by omega, Ext.refl _, Row.empty _ _ _, Row.empty _ _ _, Dj.GX _⟩ Ls ?_
  rintro VY n' L wr ⟨k, c5, c6, A5, A6, rfl, rfl, hk, F, R5, R6, hD⟩ VA
  refine aU ?_
  refine al rfl (fun VE => ?_) (fun VE => ?_)
  ·refine au 15 ?_
   refine aR (dA rfl rfl) rfl (fun hlt => ?_) (fun hlt => ?_)
   ·refine au 2 ?_
    refine bR rfl rfl ?_
    obtain ⟨b, off, y, rfl, hy, hcy⟩ := (HK.ext F).byte (k := k) Om
    refine au 4 ?_
    refine ak (af rfl Tn.u rfl hcy) ?_
    have hyX : X.getD k 0 = y := by rw [hks, hy.out]
    have hyb := (y).toNat_lt
    refine au 7 ?_
    refine ak (bI rfl rfl (bE (p := (y).toNat) (q := 54) Om Om).2.2) ?_
    refine ag (aK (z := .int .u8 0) Tn.u Kr rfl rfl rfl rfl rfl) rfl ?_
    rintro _ w5 ⟨g5, rfl, B5, VF, ex⟩
    replace F := F.ext ex
    replace R5 := R5.ext ex; replace R6 := R6.ext ex
    refine ag (bd rfl rfl cB R5 (At.gX (vs := [y ^^^ 54].map bv) (B5.congr (by rfl))) rfl aM Om Om F.size) rfl ?_
    rintro _ w6 ⟨A7, c7, rfl, R7, be, gr, hl⟩
    have F6 := F.trans be; have q6 := Row.app R6 hD gr hl R5.fG; have R8 := R7.cat; rw [gl X k Om 54 _ hyX] at R8
    refine au 6 ?_
    refine ak (bI rfl rfl (bE (p := (y).toNat) (q := 92) Om Om).2.2) ?_
    refine ag (aK (z := .int .u8 0) Tn.u Kr rfl rfl rfl rfl rfl) rfl ?_
    rintro _ w7 ⟨g7, rfl, B7, VG, ex⟩
    replace R8 := R8.ext ex; have R9 := q6.1.ext ex; have F7 := F6.ext ex
    refine ag (bd rfl rfl cB R9 (At.gX (vs := [y ^^^ 92].map bv) (B7.congr (by rfl))) rfl aM Om Om F7.size) rfl ?_
    rintro _ w8 ⟨A9, c9, rfl, Vx, be, gr, hl⟩
    have F8 := F7.trans be; have q8 := Row.app R8 q6.2.symm gr hl R9.fG; have Vw := Vx.cat; rw [gl X k Om 92 _ hyX] at Vw
    refine au 9 ?_
    refine ae ?_
    refine VA _ _ ⟨k + 1, c7, c9, A7, A9, rfl, rfl, by omega, F8, q8.1, Vw, q8.2.symm⟩ Om Ls
   ·refine au 2 ?_
    refine aX rfl rfl ?_
    refine au 3 ?_
    have hyX : X.getD k 0 = 0 := by rw [hks, List.getD_eq_getElem?_getD, List.getElem?_eq_none (by rw [HK.1]; omega)]; rfl
    have hyb := ((0 : UInt8)).toNat_lt
    refine au 3 ?_
    refine ak (bI rfl rfl (bE (p := ((0 : UInt8)).toNat) (q := 54) Om Om).2.2) ?_
    refine ag (aK (z := .int .u8 0) Tn.u Kr rfl rfl rfl rfl rfl) rfl ?_
    rintro _ w5 ⟨g5, rfl, B5, VF, ex⟩
    replace F := F.ext ex
    replace R5 := R5.ext ex; replace R6 := R6.ext ex
    refine ag (bd rfl rfl cB R5 (At.gX (vs := [(0 : UInt8) ^^^ 54].map bv) (B5.congr (by rfl))) rfl aM Om Om F.size) rfl ?_
    rintro _ w6 ⟨A7, c7, rfl, R7, be, gr, hl⟩
    have F6 := F.trans be; have q6 := Row.app R6 hD gr hl R5.fG; have R8 := R7.cat; rw [gl X k Om 54 _ hyX] at R8
    refine au 6 ?_
    refine ak (bI rfl rfl (bE (p := ((0 : UInt8)).toNat) (q := 92) Om Om).2.2) ?_
    refine ag (aK (z := .int .u8 0) Tn.u Kr rfl rfl rfl rfl rfl) rfl ?_
    rintro _ w7 ⟨g7, rfl, B7, VG, ex⟩
    replace R8 := R8.ext ex; have R9 := q6.1.ext ex; have F7 := F6.ext ex
    refine ag (bd rfl rfl cB R9 (At.gX (vs := [(0 : UInt8) ^^^ 92].map bv) (B7.congr (by rfl))) rfl aM Om Om F7.size) rfl ?_
    rintro _ w8 ⟨A9, c9, rfl, Vx, be, gr, hl⟩
    have F8 := F7.trans be; have q8 := Row.app R8 q6.2.symm gr hl R9.fG; have Vw := Vx.cat; rw [gl X k Om 92 _ hyX] at Vw
    refine au 9 ?_
    refine ae ?_
    refine VA _ _ ⟨k + 1, c7, c9, A7, A9, rfl, rfl, by omega, F8, q8.1, Vw, q8.2.symm⟩ Om Ls
  ·obtain rfl : k = 64 := by omega
   rw [List.take_of_length_le Om, hX] at R5 R6
   have hsF := F.size
   refine aU ?_
   refine ag (bd rfl rfl cB R5 (HB.ext F).2 (by rw [List.length_map, HB.1]) aM Om Om hsF) rfl ?_
   rintro _ VZ ⟨VH, c10, rfl, Vx, be, gr, hl⟩
   have VI := F.trans be; have Vw := (Row.app R6 hD gr hl R5.fG).1; have VJ := Vx.cat.bs
   refine aB func52 rfl (eY VH _ c10 _ _ VJ Om) ?_
   rintro e V0 ⟨V4, c11, rfl, VB, ex⟩
   refine aU ?_
   have VK := Vw.ext ex; have VC := VI.ext ex; have Vy := VC.size
   refine ag (bd rfl rfl cB VK VB.bs.2 (by rw [List.length_map]; exact VB.bs.1) aM Om Om Vy) rfl ?_
   rintro _ VL ⟨VM, VN, rfl, VO, be, gr, hl⟩
   have VD := VC.trans be; have VP := VO.cat.bs
   refine aB func52 rfl (eY VM _ VN _ _ VP Om) ?_
   rintro e VQ ⟨VR, VS, rfl, VT, ex⟩
   have VU := VD.ext ex; have VV := E.ext VU; have Vz : w.heap.size ≤ VL.heap.size := Nat.le_trans E.size VD.size; have VW : Row VQ w.heap.size 5 VR 32 VS _ := Row.lower VT Vz
   refine aU ?_
   refine hret rfl ?_
   exact ⟨_, _, rfl, VW, VV⟩
end
end Go.Proofs.YtgfafidlkldeaaaGreat
