/- A context and its bytes: what msg and the reference hand back. -/
import Derived.Test.YtgfafidlkldeaaaGreatRow
import Derived.Test.YtgfafidlkldeaaaGreatBigC
import Derived.Test.YtgfafidlkldeaaaGreatMacB
import Derived.Test.YtgfafidlkldeaaaGreatAu
import Derived.Test.YtgfafidlkldeaaaGreatVc7
set_option linter.unusedVariables false
set_option linter.unusedSimpArgs false
set_option maxHeartbeats 4000000
set_option maxRecDepth 4000
namespace Go.Proofs.YtgfafidlkldeaaaGreat
section
open Go.RowKit Tryz
theorem zN {xs ys : Lb} {n k : Nat} (hx : xs.length = n) (hy : ys.length = n) (hk : k < n) (h : xs.take k = ys.take k) (e : xs.getD k 0 = ys.getD k 0) : xs.take (k + 1) = ys.take (k + 1) := by
 rw [List.take_succ_eq_append_getElem Om, List.take_succ_eq_append_getElem Om, h]
 congr 1
 simpa [hx, hy, hk] using e
theorem Gg {xs ys : Lb} {k : Nat} (e : xs.getD k 0 ≠ ys.getD k 0) : xs ≠ ys := fun h => e (by rw [h])
theorem Cj (A B : Oa) (n m c d : Nat) (xs ys : Lb) (w : World) (ha : Bs w A n xs) (hb : Bs w B m ys) (hn : n ≤ 140737488355328) (hm : m ≤ 140737488355328) :
  Calls Tryz.prog 26 #[.slice A n c, .slice B m d] w fun e w' => e = .returned (.bool (decide (xs = ys))) ∧ ∃ k, w' = w.drewN k := by
 by_cases hnm : n = m
 ·subst hnm
  have HA := Lib.hid ha; have HB := Lib.hid hb
  clear ha hb
  go_enter func26, ntmps26
  go_wp2
  go_loopw [5] (fun i wr => ∃ k q : Nat, k ≤ n ∧ i = .int .i64 k ∧ wr = w.drewN q ∧ xs.take k = ys.take k) (fun i _ => n - (intOf i).toNat)
  case atStart => exact ⟨0, 0, Nat.zero_le _, rfl, rfl, rfl⟩
  case round =>
   obtain ⟨k, q, hk, rfl, rfl, heq⟩ := hrel
   have HE := Lib.hid heq
   clear heq
   by_cases hlt : k < n
   ·obtain ⟨b, off, x, rfl, hx, hcx⟩ := HA.out.byte hlt
    obtain ⟨b', Vl, y, rfl, hy, hcy⟩ := HB.out.byte hlt
    by_cases he : x = y
    ·subst he
     go_wp2_with fail
     go_quiet (fail)
     go_wp2
     go_roundw
     case rel => exact ⟨k + 1, _, by omega, by go_num, rfl, zN HA.out.1 HB.out.1 hlt HE.out (hx.out.symm.trans hy.out)⟩
     case measure => simp [intOf]; omega
    ·have hne : ((x.toNat : Int) != (y.toNat : Int)) = true := by
      rw [bne_iff_ne]
      intro h
      exact he (UInt8.toNat_inj.1 Om)
     have hxy : xs ≠ ys := Gg (k := k) (by rw [← hx.out, ← hy.out]; exact he)
     have HXY := Lib.hid hxy
     clear hxy he
     go_wp2_with fail
     go_quiet (fail)
     go_wp2
     go_ret
     exact ⟨by rw [decide_eq_false HXY.out]; rfl, _, by rw [World.drewN_drewN]⟩
   ·go_wp2
    go_ret
    have h := HE.out
    rw [List.take_of_length_le (by rw [HA.out.1]; omega), List.take_of_length_le (by rw [HB.out.1]; omega)] at h
    exact ⟨by rw [decide_eq_true h]; rfl, _, rfl⟩
 ·have hxy : xs ≠ ys := fun e => hnm (by rw [← ha.1, ← hb.1, e])
  have HXY := Lib.hid hxy
  clear hxy ha hb
  go_enter func26, ntmps26
  go_wp2
  go_ret
  exact ⟨by rw [decide_eq_false HXY.out]; rfl, 0, rfl⟩
end
section
open Go.RowKit Tryz
attribute [local irreducible] Y Ef WL WC WK WQ WM cx
theorem Jh {w : World} {base g : Nat} {e : TypeId} {A : Oa} {n c : Nat} {xs : List Value} (h : Row w base e A n c xs) (hg : w.heap.size ≤ g) : Dj A (some ⟨g, 0, none⟩) := fun b o b' o' h1 h2 => by
 subst h1
 injection h2 with h2
 injection h2 with h2 _ _
 have := (Row.lt h).2
 omega
theorem oy (A B : Oa) (n c m d k : Nat) (ks is : Lb) (w : World) (HA : Bs w A n ks) (hn : n ≤ 35184372088832) (HB : Bs w B m is) (hm : m ≤ 35184372087000) (hk : k ≤ 8160) :
  Ct 191 #[.slice A n c, .slice B m d, .int .i64 (k : Int)] w fun e w' => ∃ A' c', e = .returned (.tuple #[.slice A' k c', .int .u8 0]) ∧ Bn w.heap.size w' A' k (Kdf.expand ks is k) ∧ k ≤ c' ∧ Ext w w' := by
 refine bK 36 func191 rfl rfl rfl rfl ?_
 intro _ hret
 refine aU ?_
 refine eY 0 (fun n' L wr => ∃ (j c8 m9 c9 : Nat) (A8 A9 : Oa), L = [(0, .slice A n c), (1, .slice B m d), (2, .int .i64 (k : Int)), (8, .slice A8 (32 * j) c8), (9, .slice A9 m9 c9), (10, .int .u8 (j : Int))] ∧ n' = 256 - j ∧ (j ≤ 255 ∧ Ext w wr ∧ Row wr w.heap.size 5 A8 (32 * j) c8 ((Kdf.vl ks is j).map bv) ∧ Bs wr A9 m9 (Kdf.T ks is j))) rfl ?_ ?_
 ·rintro G n' L wr ⟨j, c8, m9, c9, A8, A9, rfl, rfl, _, F, R, H9⟩ Vl
  refine aU ?_
  refine al rfl (fun Vn => ?_) (fun Vn => ?_)
  ·have hcnt : (UInt8.ofNat (j + 1)).toNat = j + 1 := by rw [UInt8.toNat_ofNat']; omega
   have hT := Kdf.LX ks is j
   refine au 3 ?_
   refine ak (aN rfl rfl (km (x := j + 1) Om)) ?_
   refine aU ?_
   refine af (aB (z := .int .u8 0) Tn.u Kr rfl rfl rfl rfl rfl) rfl ?_
   rintro _ w4 ⟨g4, rfl, B4, _, ex⟩
   have F4 := F.ext ex; have H4 : Bs w4 (some ⟨g4, 0, none⟩) 1 [UInt8.ofNat (j + 1)] := aZ (xs := [UInt8.ofNat (j + 1)]) (B4.congr rfl) rfl; have Vo := H9.ext ex; have Ra := R.ext ex
   refine af (aB (z := .slice none 0 0) Tn.u Kr rfl rfl rfl rfl rfl) rfl ?_
   rintro _ _ ⟨_, rfl, B5, _, ex⟩
   have F5 := F4.ext ex; have S5 := jL B5 (Vo.ext ex) (HB.wk F5) (H4.ext ex); have Rb := Ra.ext ex
   refine aL func112 rfl (yA A _ n c 3 3 ks _ _ (HA.wk F5) hn S5 Om (by simp [HB.1]; omega)) ?_
   rintro e _ ⟨g6, rfl, Vp, B6, ex⟩
   have F6 := F5.ext ex; have H6 := aZ B6 (Mac.dN _ _); have hdj := Jh Rb Vp; have Rc := Rb.ext ex; have Vq := F6.size
   refine aU ?_
   refine af (aQ rfl rfl bF Rc H6.2 (by rw [List.length_map, Mac.dN]) aH Om Om Vq) rfl ?_
   rintro _ _ ⟨A7, c7, rfl, R7, be, gr, _⟩
   have F7 := F6.trans be; have R8 := R7.cat; have H8 := H6.app hdj gr Rc.eM; have hTj : Mac.tag ks [Kdf.T ks is j, is, [UInt8.ofNat (j + 1)]].flatten = Kdf.T ks is (j + 1) := by simp [Kdf.T]
   rw [hTj] at R8 H8
   refine aU ?_
   refine bZ ?_
   refine Vl _ _ ⟨j + 1, c7, 32, 32, A7, some ⟨g6, 0, none⟩, rfl, rfl, by omega, F7, R8, H8⟩ Om Ls
  ·refine au 6 ?_
   refine ak (pn (s := 1) rfl rfl Tn.u Kr (j := k) rfl (by have := R.cap; omega)) ?_
   refine aU ?_
   refine cC ?_
   refine hret rfl rfl ?_
   exact ⟨A8, c8, rfl, ⟨by have := R.bs.take (k := k) Om; rw [Kdf.qW _ _ _ _ Om] at this; exact this, R.bn.2⟩, by have := R.cap; omega, F⟩
 ·intro G Vl
  refine au 25 ?_
  refine lk ?_; intro Vr Vm
  refine gI ?_
  refine ae (Vm ?_)
  exact Vl _ _ ⟨0, 0, 0, 0, none, none, rfl, rfl, by omega, Ext.refl _, Row.empty _ _ _, Bs.nil _ none⟩ Ls
end
section
open Go.RowKit Tryz
attribute [local irreducible] Y Ef WL WC WK WQ WM cx
theorem Ma : vm Tryz.prog 127 23 24 := vm.of underlying127 (z := .slice none 0 0) Kr rfl
def ij (w : World) (A : Oa) (vs : List Value) (xss : List (List UInt8)) : Prop :=
 vs.length = xss.length ∧ ∀ i, i < xss.length → ∃ B m c, vs[i]? = some (.slice B m c) ∧ Bs w B m (xss.getD i []) ∧ Dj A B ∧ ∀ b o s, B = some ⟨b, o, s⟩ → b < w.heap.size
theorem ij.nil (w : World) (A : Oa) : ij w A [] [] := ⟨rfl, fun i hi => by cases hi⟩
theorem ij.ext {w w' : World} {A : Oa} {vs : List Value} {xss : List (List UInt8)} (h : ij w A vs xss) (e : Ext w w') : ij w' A vs xss :=
 ⟨h.1, fun i hi => by
  obtain ⟨B, m, c, h1, h2, h3, h4⟩ := h.2 i hi
  exact ⟨B, m, c, h1, h2.ext e, h3, fun b o s hb => Nat.lt_of_lt_of_le (h4 b o s hb) e.size⟩⟩
theorem ij.snoc {w : World} {A B : Oa} {m c : Nat} {vs : List Value} {xs : Lb} {xss : List (List UInt8)} (h : ij w A vs xss) (hb : Bs w B m xs) (hd : Dj A B) (hl : ∀ b o s, B = some ⟨b, o, s⟩ → b < w.heap.size) : ij w A (vs ++ [.slice B m c]) (xss ++ [xs]) :=
 ⟨by simp [h.1], fun i hi => by
  by_cases hlt : i < xss.length
  ·obtain ⟨B', m', c', h1, h2, h3, h4⟩ := h.2 i hlt
   exact ⟨B', m', c', by rw [List.getElem?_append_left (by rw [h.1]; exact hlt)]; exact h1, by simpa [List.getElem?_append, hlt] using h2, h3, h4⟩
  ·have : i = xss.length := by simp at hi; omega
   subst this
   exact ⟨B, m, c, by rw [← h.1]; simp, by simpa using hb, hd, hl⟩⟩
theorem ij.app {w w' : World} {A A' : Oa} {n c n' c' : Nat} {vs : List Value} {xss : List (List UInt8)} (h : ij w A vs xss) (hg : w.grownBy w' (Value.slice A n c).ownBlock)
    (hl : (Value.slice A' n' c').ownBlock = (Value.slice A n c).ownBlock ∨ (Value.slice A' n' c').ownBlock = some w.heap.size) (hA : ∀ b o s, A = some ⟨b, o, s⟩ → s = none) : ij w' A' vs xss :=
  ⟨h.1, fun i hi => by
    obtain ⟨B, m, k, h1, h2, h3, h4⟩ := h.2 i hi
    refine ⟨B, m, k, h1, h2.app h3 hg hA, ?_, fun b o s hb => Nat.lt_of_lt_of_le (h4 b o s hb) hg.size⟩
    intro b o _ o' e1 e2 hbb
    subst e1; subst e2; subst hbb
    have hlt := h4 b o' none rfl
    rcases hl with hl | hl
    · cases A with
      | none => simp [Value.ownBlock] at hl
      | some a =>
        obtain ⟨b2, o2, s⟩ := a
        have := hA b2 o2 s rfl
        subst this
        simp only [Value.ownBlock, Option.some.injEq] at hl
        exact h3 b2 o2 b o' rfl rfl hl.symm
    · simp only [Value.ownBlock, Option.some.injEq] at hl
      omega⟩
theorem Dx {w w' : World} {b1 b2 : Nat} {e1 e2 : TypeId} {A B : Oa} {n c m d : Nat} {xs ys : List Value} (h : Row w b1 e1 A n c xs) (k : Row w' b2 e2 B m d ys) (hb : w.heap.size ≤ b2) : Dj A B := fun b o b' o' h1 h2 => by
 subst h1; subst h2
 have h3 := (Row.lt h).2
 have h4 := (Row.lt k).1
 omega
theorem Row.CL {w : World} {base : Nat} {e : TypeId} {A : Oa} {n c : Nat} {xs : List Value} (h : Row w base e A n c xs) (b o : Nat) (s) (hA : A = some ⟨b, o, s⟩) : b < w.heap.size := by
 have := h.eM b o s hA
 subst this; subst hA
 exact (Row.lt h).2
def Ts (ks is : Lb) (j : Nat) : List (List UInt8) := (List.range j).map fun i => Kdf.T ks is (i + 1)
theorem qS (ks is : Lb) (j : Nat) : (Ts ks is j).length = j := by simp [Ts]
theorem xC (ks is : Lb) (j : Nat) : Ts ks is (j + 1) = Ts ks is j ++ [Kdf.T ks is (j + 1)] := by simp [Ts, List.range_succ]
theorem Cv (ks is : Lb) (j i : Nat) (h : i < j) : (Ts ks is j).getD i [] = Kdf.T ks is (i + 1) := by simp [Ts, h]
theorem ql (A B : Oa) (n c m d k : Nat) (ks is : Lb) (w : World) (HA : Bs w A n ks) (hn : n ≤ 35184372088832) (HB : Bs w B m is) (hm : m ≤ 35184372087000) (hk : k ≤ 8160) :
  Ct 116 #[.slice A n c, .slice B m d, .int .i64 (k : Int)] w fun e w' => ∃ A' c', e = .returned (.slice A' k c') ∧ Bs w' A' k (Kdf.expand ks is k) ∧ Ext w w' := by
 refine aj 57 func116 rfl rfl rfl rfl ?_
 intro _ hret
 refine aU ?_
 refine aF (fun n' L wr => ∃ (j c7 : Nat) (A7 : Oa) (vs : List Value), L = [(0, .slice A n c), (1, .slice B m d), (2, .int .i64 (k : Int)), (7, .slice A7 j c7), (8, .int .i64 (j : Int))] ∧ n' = 256 - j ∧ (j ≤ (k + 31) / 32 ∧ Ext w wr ∧ Row wr w.heap.size 23 A7 j c7 vs ∧ ij wr A7 vs (Ts ks is j))) _ _ ⟨0, 0, none, [], rfl, rfl, by omega, Ext.refl _, Row.empty _ _ _, ij.nil _ _⟩ Ls ?_
 rintro _ n' L wr ⟨j, c7, A7, vs, rfl, rfl, _, F, R, HP⟩ VO
 refine au 6 ?_
 refine ak (cY rfl rfl Om (IntWalk.i64_quo _ _ Om)) ?_
 refine aU ?_
 refine al rfl (fun VQ => ?_) (fun VQ => ?_)
 ·have hT := Kdf.LX ks is j
  refine aU ?_
  refine al rfl (fun VR => ?_) (fun VR => ?_)
  ·obtain ⟨j', VS⟩ : ∃ j', j = j' + 1 := ⟨j - 1, by omega⟩
   obtain ⟨g, v, rfl, hv, hcell, _⟩ := R.get (i := j') Om
   obtain ⟨D, q, r, hvD, HD, hDj, _⟩ := HP.2 j' (by rw [qS]; omega)
   rw [hv] at hvD
   injection hvD with hvD
   subst hvD
   rw [Cv ks is j j' Om, ← VS] at HD
   have hTl := HD.1
   refine au 5 ?_
   refine ak (aD rfl rfl Tn.u Kr (j := j') Om Om) ?_
   refine ak (ah rfl Tn.u rfl hcell) ?_
   refine af (iY rfl rfl bF (Row.empty _ wr.heap.size _) HD.2 (by rw [List.length_map, HD.1]) aH Om Om (Nat.le_refl _)) rfl ?_
   rintro _ w7 ⟨_, _, rfl, R9, be, gr, hl⟩
   have x7 : Ext wr w7 := be
   have Vv := x7.size
   refine aU ?_
   refine af (aQ rfl rfl bF R9 (HB.wk (F.ext x7)).2 (by rw [List.length_map, HB.1]) aH Om Om Vv) rfl ?_
   rintro _ w8 ⟨Vo, Vp, rfl, Vw, be, gr, hl⟩
   have x8 : Ext wr w8 := x7.trans be; have Vx := Vw.cat
   refine au 2 ?_
   refine ak (bg rfl Tn.u Tn.u (km (x := j + 1) Om)) ?_
   refine af (aB (z := .int .u8 0) Tn.u Kr rfl rfl rfl rfl rfl) rfl ?_
   rintro _ w9 ⟨g9, rfl, B9, VT, ex⟩
   have x9 := x8.ext ex; have Vy := Vx.ext ex; have Vz := x9.size
   refine af (aQ rfl rfl bF Vy (At.fT (vs := [UInt8.ofNat (j + 1)].map bv) (B9.congr rfl)) rfl aH Om Om Vz) rfl ?_
   rintro _ VA ⟨VU, VB, rfl, VC, be, gr, hl⟩
   have Vl : Ext wr VA := x9.trans be; have VD := VC.cat.bs
   refine aU ?_
   refine aL func18 rfl (qT A _ n c _ VB ks _ _ (HA.wk (F.ext Vl)) hn VD Om) ?_
   rintro e VV ⟨VW, VE, rfl, Vm, ex⟩
   refine aU ?_
   have Vq := Vl.ext ex; have VF := R.ext Vq; have hdj := Dx (R.ext Vl) Vm (Nat.le_refl _)
   refine af (aB (z := .slice none 0 0) Tn.u Kr rfl rfl rfl rfl rfl) rfl ?_
   rintro _ VX ⟨VY, rfl, VG, VH, ex⟩
   have Vr := Vq.ext ex; have Vs := F.ext Vr; have Vn := Vs.size; have Vt := VF.ext ex; have VI := ((HP.ext Vr).snoc (c := VE) (Vm.ext ex).bs hdj (Vm.ext ex).CL)
   refine af (aQ rfl rfl Ma Vt (At.fT VG) rfl (by intro u hu; simp at hu; subst hu; rfl) Om Om Vn) rfl ?_
   rintro _ VZ ⟨VJ, VK, rfl, VL, be, gr, hl⟩
   have VM := Vs.trans be; have Vu := VI.app gr hl Vt.eM; rw [show Mac.tag ks (Kdf.T ks is j ++ is ++ [UInt8.ofNat (j + 1)]) = Kdf.T ks is (j + 1) from rfl, ← xC] at Vu
   refine au 9 ?_
   refine ae ?_
   refine VO _ _ ⟨j + 1, VK, VJ, _, rfl, rfl, by omega, VM, VL, Vu⟩ Om Ls
  ·have x7 := Ext.refl wr; have R9 : Row wr wr.heap.size 5 none 0 0 ((Kdf.T ks is j).map bv) := by
    obtain rfl : j = 0 := by omega
    exact Row.empty _ _ _
   have Vv := x7.size
   refine aU ?_
   refine af (aQ rfl rfl bF R9 (HB.wk (F.ext x7)).2 (by rw [List.length_map, HB.1]) aH Om Om Vv) rfl ?_
   rintro _ w8 ⟨Vo, Vp, rfl, Vw, be, gr, hl⟩
   have x8 : Ext wr w8 := x7.trans be; have Vx := Vw.cat
   refine au 2 ?_
   refine ak (bg rfl Tn.u Tn.u (km (x := j + 1) Om)) ?_
   refine af (aB (z := .int .u8 0) Tn.u Kr rfl rfl rfl rfl rfl) rfl ?_
   rintro _ w9 ⟨g9, rfl, B9, VT, ex⟩
   have x9 := x8.ext ex; have Vy := Vx.ext ex; have Vz := x9.size
   refine af (aQ rfl rfl bF Vy (At.fT (vs := [UInt8.ofNat (j + 1)].map bv) (B9.congr rfl)) rfl aH Om Om Vz) rfl ?_
   rintro _ VA ⟨VU, VB, rfl, VC, be, gr, hl⟩
   have Vl : Ext wr VA := x9.trans be; have VD := VC.cat.bs
   refine aU ?_
   refine aL func18 rfl (qT A _ n c _ VB ks _ _ (HA.wk (F.ext Vl)) hn VD Om) ?_
   rintro e VV ⟨VW, VE, rfl, Vm, ex⟩
   refine aU ?_
   have Vq := Vl.ext ex; have VF := R.ext Vq; have hdj := Dx (R.ext Vl) Vm (Nat.le_refl _)
   refine af (aB (z := .slice none 0 0) Tn.u Kr rfl rfl rfl rfl rfl) rfl ?_
   rintro _ VX ⟨VY, rfl, VG, VH, ex⟩
   have Vr := Vq.ext ex; have Vs := F.ext Vr; have Vn := Vs.size; have Vt := VF.ext ex; have VI := ((HP.ext Vr).snoc (c := VE) (Vm.ext ex).bs hdj (Vm.ext ex).CL)
   refine af (aQ rfl rfl Ma Vt (At.fT VG) rfl (by intro u hu; simp at hu; subst hu; rfl) Om Om Vn) rfl ?_
   rintro _ VZ ⟨VJ, VK, rfl, VL, be, gr, hl⟩
   have VM := Vs.trans be; have Vu := VI.app gr hl Vt.eM; rw [show Mac.tag ks (Kdf.T ks is j ++ is ++ [UInt8.ofNat (j + 1)]) = Kdf.T ks is (j + 1) from rfl, ← xC] at Vu
   refine au 9 ?_
   refine ae ?_
   refine VO _ _ ⟨j + 1, VK, VJ, _, rfl, rfl, by omega, VM, VL, Vu⟩ Om Ls
 ·obtain ⟨q, hq⟩ : ∃ q, q = (k + 31) / 32 := ⟨_, rfl⟩
  obtain rfl : j = q := by omega
  refine aU ?_
  refine aF (fun n' L ws => ∃ (i Vp : Nat) (Vo : Oa), L = [(2, .int .i64 (k : Int)), (7, .slice A7 j c7), (10, .slice Vo (32 * i) Vp), (11, .int .i64 (i : Int))] ∧ n' = j - i ∧ (i ≤ j ∧ Ext wr ws ∧ Row ws wr.heap.size 5 Vo (32 * i) Vp ((Kdf.vl ks is i).map bv))) _ _ ⟨0, 0, none, rfl, rfl, by omega, Ext.refl _, Row.empty _ _ _⟩ Ls ?_
  rintro _ n' L ws ⟨i, Vp, Vo, rfl, rfl, _, G, S⟩ V0
  refine aU ?_
  refine al rfl (fun V1 => ?_) (fun V1 => ?_)
  ·obtain ⟨g, v, rfl, hv, hcell, _⟩ := (R.ext G).get (i := i) Om
   obtain ⟨D, q, r, hvD, HD, hDj, _⟩ := (HP.ext G).2 i (by rw [qS]; omega)
   rw [hv] at hvD
   injection hvD with hvD
   subst hvD
   rw [Cv ks is j i Om] at HD
   have hTl := HD.1
   rw [Kdf.uz] at hTl
   have hsG := G.size
   refine au 8 ?_
   refine ak (aD rfl rfl Tn.u Kr (j := i) rfl Om) ?_
   refine ak (ah rfl Tn.u rfl hcell) ?_
   refine af (aQ rfl rfl bF S HD.2 (by rw [List.length_map, HD.1]) aH Om Om hsG) rfl ?_
   rintro _ V2 ⟨V4, V5, rfl, V6, be, gr, hl⟩
   have Wa : Ext wr V2 := G.trans be; have VP := V6.cat; rw [show Kdf.vl ks is i ++ Kdf.T ks is (i + 1) = Kdf.vl ks is (i + 1) from rfl, ← hTl] at VP
   refine au 9 ?_
   refine ae ?_
   have VN : q = 32 := by omega
   subst VN
   refine V0 _ _ ⟨i + 1, V5, V4, rfl, rfl, by omega, Wa, VP⟩ Om Ls
  ·refine au 9 ?_
   refine ak (pn (s := 1) rfl rfl Tn.u Kr (j := k) rfl (by have := S.cap; omega)) ?_
   refine aU ?_
   refine hret rfl ?_
   exact ⟨Vo, Vp, rfl, by have := S.bs.take (k := k) Om; rw [Kdf.qW _ _ _ _ Om] at this; exact this, F.ext G⟩
end
section
open Go.RowKit Tryz
attribute [local irreducible] Y Ef WL WC WK WQ WM cx
theorem tU (A B : Oa) (n c m d : Nat) (xs ys : Lb) (w : World) (HA : Bs w A n xs) (hn : n ≤ 35184372088832) (HB : Bs w B m ys) (hm : m ≤ 35184372088000) :
  Ct 99 #[.slice A n c, .slice B m d] w fun e w' => ∃ A' c', e = .returned (.slice A' 32 c') ∧ Bs w' A' 32 (Mac.tag xs ys) ∧ Ext w w' := by
 have E := Ext.refl w
 refine aj 9 func99 rfl rfl rfl rfl ?_
 intro _ hret
 refine aU ?_
 refine af (aB (z := .slice none 0 0) Tn.u Kr rfl rfl rfl rfl rfl) rfl ?_
 rintro _ _ ⟨_, rfl, B1, _, ex⟩
 obtain ⟨HA,HB,E⟩ := bC ex HA HB E
 have S1 := lH B1 HB
 refine aL func112 rfl (yA A _ n c 1 1 xs _ _ HA hn S1 Om (by simp [HB.1]; omega)) ?_
 rintro e _ ⟨_, rfl, _, B2, ex⟩
 replace E := E.ext ex
 have H2 := aZ B2 (Mac.dN _ _)
 refine aU ?_
 refine hret rfl ?_
 exact ⟨_, _, rfl, by simpa using H2, E⟩
theorem mK (A B : Oa) (n c m d k : Nat) (s : ByteArray) (ks cs : Lb) (w : World) (HA : Bs w A n ks) (hn : n ≤ 35184372088832) (hs : s.size ≤ 1048576) (HB : Bs w B m cs) (hm : m ≤ 1048576) (hk : k ≤ 8160) :
  Ct 130 #[.slice A n c, .string s, .slice B m d, .int .i64 (k : Int)] w fun e w' => ∃ A' c', e = .returned (.tuple #[.slice A' k c', .int .u8 0]) ∧ Bn w.heap.size w' A' k (Kdf.label ks s.data.toList cs k) ∧ k ≤ c' ∧ Ext w w' := by
 have E := Ext.refl w
 have Vp := Wire.bu (8 + s.size); have Vq := Wire.bu m
 have hcs : (⟨#[77, 76, 83, 32, 49, 46, 48, 32]⟩ : ByteArray).size = 8 := rfl
 refine bK 43 func130 rfl rfl rfl rfl ?_
 intro _ hret
 refine au 23 ?_
 refine ak (zR rfl Tn.u) ?_
 refine aU ?_
 refine aL func131 rfl (eZ none 0 0 2 k [] _ (Bs.nil _ _) Om Om Om) ?_
 rintro e _ ⟨A1, c1, rfl, R1, ex⟩
 obtain ⟨HA,HB,E⟩ := bC ex HA HB E
 have H1 := R1.bs
 refine au 8 ?_
 refine ak (oD rfl rfl Om) ?_
 refine af (pO rfl Tn.u Tn.u Tn.u) rfl ?_
 rintro _ _ ⟨_, c2, rfl, H2, _, ex⟩
 obtain ⟨HA,HB,E,H1⟩ := bU ex HA HB E H1
 rw [r9, dB] at H2
 refine aL func162 rfl (di A1 _ _ c1 _ c2 _ _ _ H1 Om (by rw [dB]; exact H2) (by rw [dB]; omega)) ?_
 rintro e _ ⟨A3, k3, c3, rfl, R3, Vl, ex⟩
 obtain ⟨HA,HB,E⟩ := bC ex HA HB E
 have H3 := R3.bs; rw [dB] at Vl
 refine aU ?_
 refine aL func162 rfl (di A3 B k3 c3 m d _ cs _ H3 Om HB Om) ?_
 rintro e _ ⟨A4, k4, c4, rfl, R4, _, ex⟩
 obtain ⟨HA,E⟩ := aY ex HA E
 have H4 := R4.bs
 refine aU ?_
 have Vm := E.size
 refine aL func191 rfl (oy A A4 n c k4 c4 k ks _ _ HA hn H4 Om hk) ?_
 rintro e _ ⟨A5, c5, rfl, ⟨H5, Vn⟩, Vo, ex⟩
 replace E := E.ext ex
 refine aU ?_
 refine hret rfl rfl ?_
 exact ⟨A5, c5, rfl, Bn.lo ⟨H5, Vn⟩ Vm, Vo, E⟩
theorem kJ (A : Oa) (n c : Nat) (s : ByteArray) (ks : Lb) (w : World) (HA : Bs w A n ks) (hn : n ≤ 35184372088832) (hs : s.size ≤ 1048576) :
  Ct 67 #[.slice A n c, .string s] w fun e w' => ∃ A' c', e = .returned (.slice A' 32 c') ∧ Bn w.heap.size w' A' 32 (Kdf.label ks s.data.toList [] 32) ∧ Ext w w' := by
 refine aj 14 func67 rfl rfl rfl rfl ?_
 intro _ hret
 refine aU ?_
 refine aL func130 rfl (mK A none n c 0 0 32 s ks [] _ HA hn hs (Bs.nil _ _) Om Om) ?_
 rintro e _ ⟨A1, c1, rfl, H1, _, ex⟩
 refine aU ?_
 refine hret rfl ?_
 exact ⟨A1, c1, rfl, H1, ex⟩
theorem EK (B : Oa) (m d : Nat) (s : ByteArray) (cs : Lb) (w : World) (HB : Bs w B m cs) (hs : s.size ≤ 1048576) (hm : m ≤ 1048576) :
  Ct 86 #[.string s, .slice B m d] w fun e w' => ∃ A' c', e = .returned (.slice A' 32 c') ∧ Bn w.heap.size w' A' 32 (Sha.sum (Wire.vec s.data.toList ++ Wire.vec cs)) ∧ Ext w w' := by
 have E := Ext.refl w
 have Vl := Wire.bu s.size; have Vm := Wire.bu m
 refine aj 12 func86 rfl rfl rfl rfl ?_
 intro _ hret
 refine aU ?_
 refine af (pO rfl Tn.u Tn.u Tn.u) rfl ?_
 rintro _ _ ⟨_, c2, rfl, H2, _, ex⟩
 obtain ⟨HB,E⟩ := aY ex HB E
 refine aL func162 rfl (di none _ 0 0 _ c2 [] _ _ (Bs.nil _ _) Om H2 Om) ?_
 rintro e _ ⟨A3, k3, c3, rfl, R3, _, ex⟩
 obtain ⟨HB,E⟩ := aY ex HB E
 have H3 := R3.bs
 refine aU ?_
 refine aL func162 rfl (di A3 B k3 c3 m d _ cs _ H3 Om HB Om) ?_
 rintro e _ ⟨_, _, _, rfl, R4, _, ex⟩
 refine aU ?_
 replace E := E.ext ex
 have H4 := R4.bs
 refine af (aB (z := .slice none 0 0) Tn.u Kr rfl rfl rfl rfl rfl) rfl ?_
 rintro _ _ ⟨_, rfl, B5, _, ex⟩
 obtain ⟨E,H4⟩ := aY ex E H4
 have S5 := lH B5 H4
 have Vn := E.size
 refine aL func161 rfl (sJ _ 1 1 _ _ S5 Om (by simp only [List.flatten_cons, List.flatten_nil, List.append_nil]; rw [H4.1]; omega)) ?_
 rintro e _ ⟨_, rfl, _, B6, ex⟩
 replace E := E.ext ex
 have H6 := aZ B6 (Sha.bM _)
 refine aU ?_
 refine hret rfl ?_
 exact ⟨_, _, rfl, ⟨by simpa using H6, fun b o e => by injection e with e; injection e; omega⟩, E⟩
theorem je (A B : Oa) (n c m d k : Nat) (s : ByteArray) (ks cs : Lb) (w : World) (HA : Bs w A n ks) (hn : n ≤ 35184372088832) (hs : s.size ≤ 1048576) (HB : Bs w B m cs) (hm : m ≤ 1048576) (hk : k ≤ 8160) :
  Ct 47 #[.slice A n c, .string s, .slice B m d, .int .i64 (k : Int)] w fun e w' => ∃ A' c', e = .returned (.slice A' k c') ∧ Bs w' A' k (Kdf.label ks s.data.toList cs k) ∧ Ext w w' := by
 have E := Ext.refl w
 have Vr := Wire.bu (8 + s.size); have Vs := Wire.bu m
 have hcs : (⟨#[77, 76, 83, 32, 49, 46, 48, 32]⟩ : ByteArray).size = 8 := rfl
 refine aj 26 func47 rfl rfl rfl rfl ?_
 intro _ hret
 have Vl := HA; have Vm := HB
 refine aU ?_
 refine aL func56 rfl (gz 2 k _ Om Om) ?_
 rintro e _ ⟨_, _, rfl, R1, ex⟩
 replace E := E.ext ex
 refine au 8 ?_
 refine ak (oD rfl rfl Om) ?_
 refine af (pO rfl Tn.u Tn.u Tn.u) rfl ?_
 rintro _ _ ⟨_, c2, rfl, H2, _, ex⟩
 obtain ⟨E,R1⟩ := aY ex E R1
 rw [r9, dB] at H2
 refine aL func54 rfl (cB _ _ c2 _ _ (by rw [dB]; exact H2) (by rw [dB]; omega)) ?_
 rintro e _ ⟨_, _, _, rfl, R3, Vn, ex⟩
 refine aU ?_
 obtain ⟨E,R1⟩ := aY ex E R1
 have H3 := R3.bs; have Vo := E.size; rw [dB] at Vn
 refine af (aQ rfl rfl bF R1 H3.2 (by rw [List.length_map, H3.1]) aH Om Om Vo) rfl ?_
 rintro _ _ ⟨_, _, rfl, R4, be, gr, hl⟩
 have E4 := E.trans be; have R5 := R4.cat
 refine aU ?_
 refine aL func54 rfl (cB B m d cs _ (Vm.wk E4) Om) ?_
 rintro e _ ⟨_, _, _, rfl, R6, _, ex⟩
 refine aU ?_
 have R7 := R5.ext ex; have H6 := R6.bs; have E5 := E4.ext ex; have Vp := E5.size
 refine af (aQ rfl rfl bF R7 H6.2 (by rw [List.length_map, H6.1]) aH Om Om Vp) rfl ?_
 rintro _ _ ⟨A8, c8, rfl, R8, be, gr, hl⟩
 have E6 := E5.trans be; have H9 := R8.cat.bs
 refine aU ?_
 refine aL func116 rfl (ql A A8 n c _ c8 k ks _ _ (Vl.wk E6) hn H9 Om hk) ?_
 rintro e _ ⟨A9, c9, rfl, Vq, ex⟩
 have E7 := E6.ext ex
 refine aU ?_
 refine hret rfl ?_
 exact ⟨A9, c9, rfl, Vq, E7⟩
end
section
open Go.RowKit Tryz
attribute [local irreducible] Y Ef WL WC WK WQ WM cx WN WF cT
structure Ctx where
 grp : List UInt8
 ep : Nat
 tree : List UInt8
 trans : List UInt8
def cW (c : Ctx) : List UInt8 := Wire.be 2 1 ++ Wire.be 2 1 ++ Wire.vec c.grp ++ Wire.be 8 c.ep ++ Wire.vec c.tree ++ Wire.vec c.trans ++ [0]
def Ff (A1 A2 A3 : Oa) (n1 c1 n2 c2 n3 c3 e : Nat) : Array Value := #[.slice A1 n1 c1, .int .u64 (e : Int), .slice A2 n2 c2, .slice A3 n3 c3]
def lT (w : World) (cs : Array Value) (c : Ctx) : Prop := ∃ A1 A2 A3 n1 c1 n2 c2 n3 c3, cs = Ff A1 A2 A3 n1 c1 n2 c2 n3 c3 c.ep ∧ Bs w A1 n1 c.grp ∧ Bs w A2 n2 c.tree ∧ Bs w A3 n3 c.trans
theorem lT.ext {w w' : World} {cs : Array Value} {c : Ctx} (h : lT w cs c) (k : Ext w w') : lT w' cs c := by
 obtain ⟨A1, A2, A3, n1, c1, n2, c2, n3, c3, h0, h1, h2, h3⟩ := h
 exact ⟨A1, A2, A3, n1, c1, n2, c2, n3, c3, h0, h1.ext k, h2.ext k, h3.ext k⟩
def Ctx.Small (c : Ctx) : Prop := c.grp.length ≤ 200 ∧ c.tree.length ≤ 200 ∧ c.trans.length ≤ 200 ∧ c.ep < 18446744073709551616
theorem fS {c : Ctx} (h : c.Small) : (cW c).length ≤ 700 := by
 obtain ⟨h1, h2, h3, h4⟩ := h
 have := Wire.bu c.grp.length; have := Wire.bu c.tree.length; have := Wire.bu c.trans.length
 unfold cW
 simp only [List.length_append, Wire.gd, Wire.gA, List.length_cons, List.length_nil]
 omega
theorem gl (A : Oa) (n c s x : Nat) (xs : Lb) (w : World) (HA : Bs w A n xs) (hn : n ≤ 70368744177664) (hs : s = 1 ∨ s = 2 ∨ s = 4 ∨ s = 8) (hx : x < 18446744073709551616) :
  Ct 163 #[.slice A n c, .int .i64 (s : Int), .int .u64 (x : Int)] w fun e w' => ∃ A' c', e = .returned (.slice A' (n + s) c') ∧ Row w' w.heap.size 5 A' (n + s) c' ((xs ++ Wire.be s x).map bv) ∧ Ext w w' := by
 refine aj 11 func163 rfl rfl rfl rfl ?_
 intro _ hret
 refine aU ?_
 refine aL func131 rfl (eZ A n c s x xs _ HA hn hs hx) ?_
 rintro e _ ⟨A1, c1, rfl, R1, ex⟩
 refine aU ?_
 refine hret rfl ?_
 exact ⟨A1, c1, rfl, R1, ex⟩
theorem cQ (A B : Oa) (n c m d : Nat) (xs ys : Lb) (w : World) (HA : Bs w A n xs) (hn : n ≤ 35184372088832) (HB : Bs w B m ys) (hm : m < 1073741824) :
  Ct 87 #[.slice A n c, .slice B m d] w fun e w' => ∃ A' k c', e = .returned (.slice A' k c') ∧ Row w' w.heap.size 5 A' k c' ((xs ++ Wire.vec ys).map bv) ∧ k = n + (Wire.iE m + m) ∧ Ext w w' := by
 refine aj 8 func87 rfl rfl rfl rfl ?_
 intro _ hret
 refine aU ?_
 refine aL func162 rfl (di A B n c m d xs ys _ HA hn HB hm) ?_
 rintro e _ ⟨A1, k1, c1, rfl, R1, hk, ex⟩
 refine aU ?_
 refine hret rfl ?_
 exact ⟨A1, k1, c1, rfl, R1, hk, ex⟩
theorem dh (A B : Oa) (n c m d : Nat) (xs ys : Lb) (w : World) (HA : Bs w A n xs) (hn : n ≤ 35184372088832) (HB : Bs w B m ys) (hm : m ≤ 35184372088832) :
  Ct 80 #[.slice A n c, .slice B m d] w fun e w' => ∃ A' c', e = .returned (.slice A' (n + m) c') ∧ Row w' w.heap.size 5 A' (n + m) c' ((xs ++ ys).map bv) ∧ Ext w w' := by
 refine aj 10 func80 rfl rfl rfl rfl ?_
 intro _ hret
 refine aU ?_
 refine af (aB (z := .int .u8 0) Tn.u Kr rfl rfl rfl rfl rfl) rfl ?_
 rintro _ w1 ⟨g1, rfl, B1, Vl, ex⟩
 have E1 := ex; have R1 : Row w1 w.heap.size 5 (some ⟨g1, 0, none⟩) 0 0 [] := Row.new B1 Vl rfl (by unfold maxLen; omega)
 refine aU ?_
 refine af (iY rfl rfl bF R1 (HA.ext E1).2 (by rw [List.length_map, HA.1]) aH Om Om E1.size) rfl ?_
 rintro _ _ ⟨_, _, rfl, R2, be, gr, hl⟩
 have E2 := E1.trans be
 refine aU ?_
 refine af (aQ rfl rfl bF R2 (HB.ext E2).2 (by rw [List.length_map, HB.1]) aH Om Om E2.size) rfl ?_
 rintro _ _ ⟨A3, c3, rfl, R3, be, gr, hl⟩
 have E3 := E2.trans be
 refine aU ?_
 refine hret rfl ?_
 exact ⟨A3, c3, rfl, R3.cat, E3⟩
theorem dO (A B C : Oa) (n c m d k f : Nat) (xs ys zs : Lb) (w : World) (HA : Bs w A n xs) (hn : n ≤ 1000000) (HB : Bs w B m ys) (hm : m ≤ 1000000) (HC : Bs w C k zs) (hk : k ≤ 1000000) :
  Ct 122 #[.slice A n c, .slice B m d, .slice C k f] w fun e w' => ∃ A' c', e = .returned (.slice A' (n + m + k) c') ∧ Row w' w.heap.size 5 A' (n + m + k) c' ((xs ++ ys ++ zs).map bv) ∧ Ext w w' := by
 refine aj 12 func122 rfl rfl rfl rfl ?_
 intro _ hret
 refine aU ?_
 refine aL func80 rfl (dh A B n c m d xs ys _ HA Om HB Om) ?_
 rintro e _ ⟨A1, c1, rfl, R1, ex⟩
 replace HC := HC.ext ex
 have E1 := ex
 refine aU ?_
 refine aL func80 rfl (dh A1 C _ c1 k f _ zs _ R1.bs Om HC Om) ?_
 rintro e _ ⟨A2, c2, rfl, R2, ex⟩
 have E2 := E1.ext ex
 refine aU ?_
 refine hret rfl ?_
 exact ⟨A2, c2, rfl, R2.lower E1.size, E2⟩
theorem jY (x : Nat) (w : World) (hx : x < 18446744073709551616) :
  Ct 158 #[.int .u64 (x : Int)] w fun e w' => ∃ A' c', e = .returned (.slice A' 2 c') ∧ Row w' w.heap.size 5 A' 2 c' ((Wire.be 2 x).map bv) ∧ Ext w w' := by
 refine aj 5 func158 rfl rfl rfl rfl ?_
 intro _ hret
 refine aU ?_
 refine aL func56 rfl (gz 2 x _ Om hx) ?_
 rintro e _ ⟨A1, c1, rfl, R1, ex⟩
 refine aU ?_
 refine hret rfl ?_
 exact ⟨A1, c1, rfl, R1, ex⟩
theorem dq (B : Oa) (m d : Nat) (ys : Lb) (w : World) (HB : Bs w B m ys) (hm : m < 1073741824) :
  Ct 82 #[.slice B m d] w fun e w' => ∃ A' k c', e = .returned (.slice A' k c') ∧ Row w' w.heap.size 5 A' k c' ((Wire.vec ys).map bv) ∧ k = Wire.iE m + m ∧ Ext w w' := by
 refine aj 5 func82 rfl rfl rfl rfl ?_
 intro _ hret
 refine aU ?_
 refine aL func54 rfl (cB B m d ys _ HB hm) ?_
 rintro e _ ⟨A1, k1, c1, rfl, R1, hk, ex⟩
 refine aU ?_
 refine hret rfl ?_
 exact ⟨A1, k1, c1, rfl, R1, hk, ex⟩
theorem kg (cs : Array Value) (x : Ctx) (w : World) (H : lT w cs x) (hs : x.Small) :
  Ct 101 #[.agg cs] w fun e w' => ∃ A' k c', e = .returned (.slice A' k c') ∧ Row w' w.heap.size 5 A' k c' ((cW x).map bv) ∧ k ≤ 700 ∧ Ext w w' := by
 have hlen := fS hs
 obtain ⟨A1, A2, A3, n1, c1, n2, c2, n3, c3, rfl, H1, H2, H3⟩ := H
 obtain ⟨s1, s2, s3, s4⟩ := hs
 have E := Ext.refl w
 have Vt := H1.1; have Vu := H2.1; have Vv := H3.1
 have z1 := Wire.bu n1; have z2 := Wire.bu n2; have z3 := Wire.bu n3
 refine aj 21 func101 rfl rfl rfl rfl ?_
 intro _ hret
 refine aU ?_
 intro w1 g1 (B1 : ao _ _ _ (Ff A1 A2 A3 n1 c1 n2 c2 n3 c3 x.ep)) Vw ex
 obtain ⟨E,H1,H2,H3⟩ := bU ex E H1 H2 H3
 refine aU ?_
 refine aA Kr 9 rfl ?_; intro Vx ex Vy
 obtain ⟨E,H1,H2,H3,B1⟩ := gQ ex E H1 H2 H3 B1
 refine zm [2, 3, 5, 6] ?_
 refine bm 0 rfl func163 rfl (gl none 0 0 2 1 [] _ (Bs.nil _ _) Om Om Om) ?_
 rintro e _ ⟨A4, c4, rfl, R4, ex⟩
 obtain ⟨E,H1,H2,H3,B1⟩ := gQ ex E H1 H2 H3 B1
 refine aU ?_
 refine bm 1 rfl func163 rfl (gl A4 _ c4 2 1 _ _ R4.bs Om Om Om) ?_
 rintro e _ ⟨A5, c5, rfl, R5, ex⟩
 obtain ⟨E,H1,H2,H3,B1⟩ := gQ ex E H1 H2 H3 B1
 refine aU ?_
 refine bm 4 rfl func87 rfl (cQ A5 A1 _ c5 n1 c1 _ _ _ R5.bs Om H1 Om) ?_
 rintro e _ ⟨A6, k6, c6, rfl, R6, _, ex⟩
 obtain ⟨E,H2,H3,B1⟩ := bU ex E H2 H3 B1
 refine aU ?_
 refine bm 7 rfl func163 rfl (gl A6 k6 c6 8 x.ep _ _ R6.bs Om Om Om) ?_
 rintro e _ ⟨A7, c7, rfl, R7, ex⟩
 obtain ⟨E,H2,H3,B1⟩ := bU ex E H2 H3 B1
 refine zm [8] ?_
 refine aA Kr 10 rfl ?_; intro Vz ex VA
 obtain ⟨E,H2,H3,B1,R7⟩ := gQ ex E H2 H3 B1 R7
 refine zm [0, 1, 2, 4, 5] ?_
 refine ez 3 7 Kr ?_ ?_
 ·skip
  refine dG rfl func87 rfl rfl rfl (cQ A7 A2 _ c7 n2 c2 _ _ _ R7.bs Om H2 Om) rfl ?_
  rintro e w6 ⟨A8, k8, c8, rfl, R8, Vs, ex⟩
  obtain ⟨E,H3⟩ := aY ex E H3
  refine aU ?_
  refine ez 6 7 Kr ?_ ?_
  ·skip
   have Vm := E
   refine dG rfl func87 rfl rfl rfl (cQ A8 A3 k8 c8 n3 c3 _ _ _ R8.bs Om H3 Om) rfl ?_
   rintro e w7 ⟨A9, k9, c9, rfl, R9, Vq, ex⟩
   refine aU ?_
   replace E := E.ext ex
   replace R9 := R9.lower Vm.size
   refine aM 7 Kr ?_; refine aO rfl (aB (z := .int .u8 0) Tn.u Kr rfl rfl rfl rfl rfl) rfl ?_
   rintro _ w8 ⟨g8, rfl, D8, Vr, ex⟩
   refine ⟨.inr ex, ?_⟩
   obtain ⟨E,R9⟩ := aY ex E R9
   refine aM 8 Kr ?_; refine aO rfl (aQ rfl rfl bF R9 (At.fT (vs := [(0 : UInt8)].map bv) (D8.congr (by rfl))) rfl aH Om Om E.size) rfl ?_
   rintro _ w9 ⟨Vn, Vo, rfl, Vp, be, gr, hl⟩
   refine ⟨.inl rfl, ?_⟩
   have E9 := E.trans be; have Vl := Vp.cat
   refine zm [9] ?_
   refine hret rfl ?_
   have HF := Vl.bs
   have e : ([] ++ Wire.be 2 1 ++ Wire.be 2 1 ++ Wire.vec x.grp ++ Wire.be 8 x.ep ++ Wire.vec x.tree ++ Wire.vec x.trans ++ [0]) = cW x := by unfold cW; simp
   rw [e] at HF
   have hf := HF.1
   exact ⟨Vn, _, Vo, rfl, Vl.congr rfl (by rw [e]), by omega, E9⟩
  ·skip
   refine aO rfl (aB (z := .int .u8 0) Tn.u Kr rfl rfl rfl rfl rfl) rfl ?_
   rintro _ w8 ⟨g8, rfl, D8, Vr, ex⟩
   refine ⟨.inr ex, ?_⟩
   obtain ⟨E,H3,R8⟩ := bC ex E H3 R8
   have Vm := E
   refine bm 6 rfl func87 rfl (cQ A8 A3 k8 c8 n3 c3 _ _ _ R8.bs Om H3 Om) ?_
   rintro e w7 ⟨A9, k9, c9, rfl, R9, Vq, ex⟩
   refine aU ?_
   obtain ⟨E,D8⟩ := aY ex E D8
   replace R9 := R9.lower Vm.size
   refine aM 8 Kr ?_; refine aO rfl (aQ rfl rfl bF R9 (At.fT (vs := [(0 : UInt8)].map bv) (D8.congr (by rfl))) rfl aH Om Om E.size) rfl ?_
   rintro _ w9 ⟨Vn, Vo, rfl, Vp, be, gr, hl⟩
   refine ⟨.inl rfl, ?_⟩
   have E9 := E.trans be; have Vl := Vp.cat
   refine zm [9] ?_
   refine hret rfl ?_
   have HF := Vl.bs
   have e : ([] ++ Wire.be 2 1 ++ Wire.be 2 1 ++ Wire.vec x.grp ++ Wire.be 8 x.ep ++ Wire.vec x.tree ++ Wire.vec x.trans ++ [0]) = cW x := by unfold cW; simp
   rw [e] at HF
   have hf := HF.1
   exact ⟨Vn, _, Vo, rfl, Vl.congr rfl (by rw [e]), by omega, E9⟩
 ·skip
  refine aO rfl (aB (z := .int .u8 0) Tn.u Kr rfl rfl rfl rfl rfl) rfl ?_
  rintro _ w8 ⟨g8, rfl, D8, Vr, ex⟩
  refine ⟨.inr ex, ?_⟩
  obtain ⟨E,H2,H3,R7⟩ := bU ex E H2 H3 R7
  refine bm 3 rfl func87 rfl (cQ A7 A2 _ c7 n2 c2 _ _ _ R7.bs Om H2 Om) ?_
  rintro e w6 ⟨A8, k8, c8, rfl, R8, Vs, ex⟩
  obtain ⟨E,H3,D8⟩ := bC ex E H3 D8
  refine aU ?_
  have Vm := E
  refine bm 6 rfl func87 rfl (cQ A8 A3 k8 c8 n3 c3 _ _ _ R8.bs Om H3 Om) ?_
  rintro e w7 ⟨A9, k9, c9, rfl, R9, Vq, ex⟩
  refine aU ?_
  obtain ⟨E,D8⟩ := aY ex E D8
  replace R9 := R9.lower Vm.size
  refine aM 8 Kr ?_; refine aO rfl (aQ rfl rfl bF R9 (At.fT (vs := [(0 : UInt8)].map bv) (D8.congr (by rfl))) rfl aH Om Om E.size) rfl ?_
  rintro _ w9 ⟨Vn, Vo, rfl, Vp, be, gr, hl⟩
  refine ⟨.inl rfl, ?_⟩
  have E9 := E.trans be; have Vl := Vp.cat
  refine zm [9] ?_
  refine hret rfl ?_
  have HF := Vl.bs
  have e : ([] ++ Wire.be 2 1 ++ Wire.be 2 1 ++ Wire.vec x.grp ++ Wire.be 8 x.ep ++ Wire.vec x.tree ++ Wire.vec x.trans ++ [0]) = cW x := by unfold cW; simp
  rw [e] at HF
  have hf := HF.1
  exact ⟨Vn, _, Vo, rfl, Vl.congr rfl (by rw [e]), by omega, E9⟩
theorem kh (cs : Array Value) (x : Ctx) (w : World) (H : lT w cs x) (hs : x.Small) :
  Ct 119 #[.agg cs] w fun e w' => ∃ A' k c', e = .returned (.slice A' k c') ∧ Row w' w.heap.size 5 A' k c' ((cW x).map bv) ∧ k ≤ 700 ∧ Ext w w' := by
 have hlen := fS hs
 obtain ⟨A1, A2, A3, n1, c1, n2, c2, n3, c3, rfl, H1, H2, H3⟩ := H
 obtain ⟨s1, s2, s3, s4⟩ := hs
 have E := Ext.refl w
 have VD := H1.1; have VE := H2.1; have VF := H3.1
 have z1 := Wire.bu n1; have z2 := Wire.bu n2; have z3 := Wire.bu n3
 refine aj 22 func119 rfl rfl rfl rfl ?_
 intro _ hret
 refine aU ?_
 intro w1 g1 (B1 : ao _ _ _ (Ff A1 A2 A3 n1 c1 n2 c2 n3 c3 x.ep)) VG ex
 obtain ⟨E,H1,H2,H3⟩ := bU ex E H1 H2 H3
 refine aU ?_
 refine dc Kr 20 rfl ?_; intro Vp ex VH
 obtain ⟨E,H1,H2,H3,B1⟩ := gQ ex E H1 H2 H3 B1
 have Vq := B1
 have X0 := Ext.refl Vp
 refine zm [2, 3, 6, 7, 10, 11, 13, 14] ?_
 refine dd (fl := [NZ 16 19 5 1 ([.int .u8 0])]) rfl ?_
 refine jj 0 (some 3) func158 ?_
 intro _ ex exb
 obtain ⟨E,H1,H2,H3,X0⟩ := gQ ex E H1 H2 H3 X0
 refine ⟨_, (jY 1 _ Om), ?_⟩
 rintro e _ ⟨A4, c4, rfl, R4, ex⟩
 refine ⟨_, rfl, ex, ?_⟩
 obtain ⟨E,H1,H2,H3,X0⟩ := gQ ex E H1 H2 H3 X0
 refine jj 1 (some 4) func158 ?_
 intro _ ex exb
 obtain ⟨E,H1,H2,H3,X0,R4⟩ := gL ex E H1 H2 H3 X0 R4
 refine ⟨_, (jY 1 _ Om), ?_⟩
 rintro e _ ⟨A5, c5, rfl, R5, ex⟩
 refine ⟨_, rfl, ex, ?_⟩
 obtain ⟨E,H1,H2,H3,X0,R4⟩ := gL ex E H1 H2 H3 X0 R4
 refine jj 4 (some 7) func82 ?_
 intro _ ex exb
 obtain ⟨E,H1,H2,H3,X0,R4,R5⟩ := gY ex E H1 H2 H3 X0 R4 R5
 refine ⟨_, (dq A1 n1 c1 _ _ H1 Om), ?_⟩
 rintro e _ ⟨A6, k6, c6, rfl, R6, _, ex⟩
 refine ⟨_, rfl, ex, ?_⟩
 obtain ⟨E,H2,H3,X0,R4,R5⟩ := gL ex E H2 H3 X0 R4 R5
 refine jj 5 (some 8) func122 ?_
 intro _ ex exb
 obtain ⟨E,H2,H3,X0,R4,R5,R6⟩ := gY ex E H2 H3 X0 R4 R5 R6
 refine ⟨_, (dO A4 A5 A6 2 c4 2 c5 k6 c6 _ _ _ _ R4.bs Om R5.bs Om R6.bs Om), ?_⟩
 rintro e _ ⟨A7, c7, rfl, R7, ex⟩
 refine ⟨_, rfl, ex, ?_⟩
 obtain ⟨E,H2,H3,X0⟩ := bU ex E H2 H3 X0
 refine jj 8 (some 11) func56 ?_
 intro _ ex exb
 obtain ⟨E,H2,H3,X0,R7⟩ := gQ ex E H2 H3 X0 R7
 refine ⟨_, (gz 8 x.ep _ Om Om), ?_⟩
 rintro e _ ⟨A8, c8, rfl, R8, ex⟩
 refine ⟨_, rfl, ex, ?_⟩
 obtain ⟨E,H2,H3,X0,R7⟩ := gQ ex E H2 H3 X0 R7
 refine jj 9 (some 12) func80 ?_
 intro _ ex exb
 obtain ⟨E,H2,H3,X0,R7,R8⟩ := gL ex E H2 H3 X0 R7 R8
 refine ⟨_, (dh A7 A8 _ c7 8 c8 _ _ _ R7.bs Om R8.bs Om), ?_⟩
 rintro e _ ⟨A9, c9, rfl, R9, ex⟩
 refine ⟨_, rfl, ex, ?_⟩
 obtain ⟨E,H2,H3,X0⟩ := bU ex E H2 H3 X0
 refine jj 12 (some 15) func82 ?_
 intro _ ex exb
 obtain ⟨E,H2,H3,X0,R9⟩ := gQ ex E H2 H3 X0 R9
 refine ⟨_, (dq A2 n2 c2 _ _ H2 Om), ?_⟩
 rintro e _ ⟨Vr, Vs, Vt, rfl, Vl, _, ex⟩
 refine ⟨_, rfl, ex, ?_⟩
 obtain ⟨E,H3,X0,R9⟩ := bU ex E H3 X0 R9
 refine jj 15 (some 18) func82 ?_
 intro _ ex exb
 obtain ⟨E,H3,X0,R9,Vl⟩ := gQ ex E H3 X0 R9 Vl
 refine ⟨_, (dq A3 n3 c3 _ _ H3 Om), ?_⟩
 rintro e _ ⟨Vu, Vv, Vw, rfl, Vn, _, ex⟩
 refine ⟨_, rfl, ex, ?_⟩
 obtain ⟨E,X0,R9,Vl⟩ := bU ex E X0 R9 Vl
 refine ie ⟨(aS (vh rfl underlying23 (z := .int .u8 0) Kr rfl rfl rfl rfl rfl) av), of_decide_eq_true rfl, of_decide_eq_true rfl, (aS (⟨rfl, of_decide_eq_true rfl⟩) av), (aS (aR Kr) av)⟩ Kr ?_
 rintro _ _ ex ⟨⟨_, rfl, Vo⟩, _⟩
 obtain ⟨E,X0,R9,Vl,Vn⟩ := gQ ex E X0 R9 Vl Vn
 refine cL 17 Kr ?_
 refine yi rfl func122 rfl rfl rfl (dO Vr Vu _ Vs Vt Vv Vw 1 1 _ _ _ _ Vl.bs Om Vn.bs Om (aZ (xs := [(0 : UInt8)]) (Vo.congr (by rfl)) rfl) Om) rfl ?_
 rintro e _ ⟨Vx, Vy, rfl, Vz, ex⟩
 refine ⟨_, rfl, X0.ext ex, ?_⟩
 obtain ⟨E,X0,R9⟩ := bC ex E X0 R9
 have VA := E
 refine cL 18 Kr ?_
 refine yi rfl func80 rfl rfl rfl (dh A9 Vx _ c9 _ Vy _ _ _ R9.bs Om Vz.bs Om) rfl ?_
 rintro e _ ⟨VB, VC, rfl, Vm, ex⟩
 refine ⟨_, rfl, X0.ext ex, ?_⟩
 replace E := E.ext ex
 replace Vm := Vm.lower VA.size
 refine zm [19] ?_
 refine dA Kr ?_
 refine aU ?_
 refine hret rfl ?_
 have e : ((Wire.be 2 1 ++ Wire.be 2 1 ++ Wire.vec x.grp) ++ Wire.be 8 x.ep ++ (Wire.vec x.tree ++ Wire.vec x.trans ++ [0])) = cW x := by unfold cW; simp
 rw [e] at Vm
 have hf := Vm.bs.1
 exact ⟨VB, _, VC, rfl, Vm, by omega, E⟩
end
end Go.Proofs.YtgfafidlkldeaaaGreat
