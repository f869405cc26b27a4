/- The reference's Expand: what it hands back. Lengths up to 2^20. -/
import Derived.Test.YtgfafidlkldeaaaGreatRow
import Derived.Test.YtgfafidlkldeaaaGreatBigC
import Derived.Test.YtgfafidlkldeaaaGreatMacB
import Derived.Test.YtgfafidlkldeaaaGreatAu
set_option linter.unusedVariables false
set_option linter.unusedSimpArgs false
set_option maxHeartbeats 4000000
set_option maxRecDepth 4000
namespace Go.Proofs.YtgfafidlkldeaaaGreat
section
open Go.RowKit Tryz
theorem BL {xs ys : Lb} {n k : Nat} (hx : xs.length = n) (hy : ys.length = n) (hk : k < n) (h : xs.take k = ys.take k) (e : xs.getD k 0 = ys.getD k 0) : xs.take (k + 1) = ys.take (k + 1) := by
 rw [List.take_succ_eq_append_getElem Om, List.take_succ_eq_append_getElem Om, h]
 congr 1
 simpa [hx, hy, hk] using e
theorem JE {xs ys : Lb} {k : Nat} (e : xs.getD k 0 ≠ ys.getD k 0) : xs ≠ ys := fun h => e (by rw [h])
theorem vI (A B : Oa) (n m c d : Nat) (xs ys : Lb) (w : World) (ha : Bs w A n xs) (hb : Bs w B m ys) (hn : n ≤ 140737488355328) (hm : m ≤ 140737488355328) :
  Calls Tryz.prog 26 #[.slice A n c, .slice B m d] w fun e w' => e = .returned (.bool (decide (xs = ys))) ∧ ∃ k, w' = w.drewN k := by
 by_cases hnm : n = m
 ·subst hnm
  have HA := Lib.hid ha; have HB := Lib.hid hb
  clear ha hb
  go_enter func26, ntmps26
  go_wp2
  go_loopw [5] (fun i wr => ∃ k q : Nat, k ≤ n ∧ i = .int .i64 k ∧ wr = w.drewN q ∧ xs.take k = ys.take k) (fun i _ => n - (intOf i).toNat)
  case atStart => exact ⟨0, 0, Nat.zero_le _, rfl, rfl, rfl⟩
  case round =>
   obtain ⟨k, q, hk, rfl, rfl, heq⟩ := hrel
   have HE := Lib.hid heq
   clear heq
   by_cases hlt : k < n
   ·obtain ⟨b, off, x, rfl, hx, hcx⟩ := HA.out.byte hlt
    obtain ⟨b', Vw, y, rfl, hy, hcy⟩ := HB.out.byte hlt
    by_cases he : x = y
    ·subst he
     go_wp2_with fail
     go_quiet (fail)
     go_wp2
     go_roundw
     case rel => exact ⟨k + 1, _, by omega, by go_num, rfl, BL HA.out.1 HB.out.1 hlt HE.out (hx.out.symm.trans hy.out)⟩
     case measure => simp [intOf]; omega
    ·have hne : ((x.toNat : Int) != (y.toNat : Int)) = true := by
      rw [bne_iff_ne]
      intro h
      exact he (UInt8.toNat_inj.1 Om)
     have hxy : xs ≠ ys := JE (k := k) (by rw [← hx.out, ← hy.out]; exact he)
     have HXY := Lib.hid hxy
     clear hxy he
     go_wp2_with fail
     go_quiet (fail)
     go_wp2
     go_ret
     exact ⟨by rw [decide_eq_false HXY.out]; rfl, _, by rw [World.drewN_drewN]⟩
   ·go_wp2
    go_ret
    have h := HE.out
    rw [List.take_of_length_le (by rw [HA.out.1]; omega), List.take_of_length_le (by rw [HB.out.1]; omega)] at h
    exact ⟨by rw [decide_eq_true h]; rfl, _, rfl⟩
 ·have hxy : xs ≠ ys := fun e => hnm (by rw [← ha.1, ← hb.1, e])
  have HXY := Lib.hid hxy
  clear hxy ha hb
  go_enter func26, ntmps26
  go_wp2
  go_ret
  exact ⟨by rw [decide_eq_false HXY.out]; rfl, 0, rfl⟩
end
section
open Go.RowKit Tryz
attribute [local irreducible] Y Ef WL WC WK WQ WM cE
theorem L6 {w : World} {base g : Nat} {e : TypeId} {A : Oa} {n c : Nat} {xs : List Value} (h : Row w base e A n c xs) (hg : w.heap.size ≤ g) : Dj A (some ⟨g, 0, none⟩) := fun b o b' o' h1 h2 => by
 subst h1
 injection h2 with h2
 injection h2 with h2 _ _
 have := (Row.lt h).2
 omega
theorem qq (A B : Oa) (n c m d k : Nat) (ks is : Lb) (w : World) (HA : Bs w A n ks) (hn : n ≤ 35184372088832) (HB : Bs w B m is) (hm : m ≤ 35184372087000) (hk : k ≤ 8160) :
  Ct 191 #[.slice A n c, .slice B m d, .int .i64 (k : Int)] w fun e w' => ∃ A' c', e = .returned (.tuple #[.slice A' k c', .int .u8 0]) ∧ Bs w' A' k (Kdf.expand ks is k) ∧ k ≤ c' ∧ Ext w w' := by
 refine bu 36 func191 rfl rfl rfl rfl ?_
 intro _ hret
 refine aU ?_
 refine fu 0 (fun n' L wr => ∃ (j c8 m9 c9 : Nat) (A8 A9 : Oa), L = [(0, .slice A n c), (1, .slice B m d), (2, .int .i64 (k : Int)), (8, .slice A8 (32 * j) c8), (9, .slice A9 m9 c9), (10, .int .u8 (j : Int))] ∧ n' = 256 - j ∧ (j ≤ 255 ∧ Ext w wr ∧ Row wr w.heap.size 5 A8 (32 * j) c8 ((Kdf.xG ks is j).map bv) ∧ Bs wr A9 m9 (Kdf.T ks is j))) rfl ?_ ?_
 ·rintro G n' L wr ⟨j, c8, m9, c9, A8, A9, rfl, rfl, _, F, R, H9⟩ Vw
  refine aU ?_
  refine al rfl (fun Vy => ?_) (fun Vy => ?_)
  ·have hcnt : (UInt8.ofNat (j + 1)).toNat = j + 1 := by rw [UInt8.toNat_ofNat']; omega
   have hT := Kdf.N7 ks is j
   refine au 3 ?_
   refine ak (aO rfl rfl (lX (x := j + 1) Om)) ?_
   refine aU ?_
   refine ag (aK (z := .int .u8 0) Tn.u Kr rfl rfl rfl rfl rfl) rfl ?_
   rintro _ w4 ⟨g4, rfl, B4, _, ex⟩
   have F4 := F.ext ex; have H4 : Bs w4 (some ⟨g4, 0, none⟩) 1 [UInt8.ofNat (j + 1)] := bw (xs := [UInt8.ofNat (j + 1)]) (B4.congr rfl) rfl; have Vz := H9.ext ex; have Ra := R.ext ex
   refine ag (aK (z := .slice none 0 0) Tn.u Kr rfl rfl rfl rfl rfl) rfl ?_
   rintro _ _ ⟨_, rfl, B5, _, ex⟩
   have F5 := F4.ext ex; have S5 := lJ B5 (Vz.ext ex) (HB.wk F5) (H4.ext ex); have Rb := Ra.ext ex
   refine aB func112 rfl (uI A _ n c 3 3 ks _ _ (HA.wk F5) hn S5 Om (by simp [HB.1]; omega)) ?_
   rintro e _ ⟨g6, rfl, VA, B6, ex⟩
   have F6 := F5.ext ex; have H6 := bw B6 (Mac.dN _ _); have hdj := L6 Rb VA; have Rc := Rb.ext ex; have VB := F6.size
   refine aU ?_
   refine ag (bd rfl rfl cB Rc H6.2 (by rw [List.length_map, Mac.dN]) aM Om Om VB) rfl ?_
   rintro _ _ ⟨A7, c7, rfl, R7, be, gr, _⟩
   have F7 := F6.trans be; have R8 := R7.cat; have H8 := H6.app hdj gr Rc.fG; have hTj : Mac.tag ks [Kdf.T ks is j, is, [UInt8.ofNat (j + 1)]].flatten = Kdf.T ks is (j + 1) := by simp [Kdf.T]
   rw [hTj] at R8 H8
   refine aU ?_
   refine bV ?_
   refine Vw _ _ ⟨j + 1, c7, 32, 32, A7, some ⟨g6, 0, none⟩, rfl, rfl, by omega, F7, R8, H8⟩ Om Ls
  ·refine au 6 ?_
   refine ak (kv (s := 1) rfl rfl Tn.u Kr (j := k) rfl (by have := R.cap; omega)) ?_
   refine aU ?_
   refine bK ?_
   refine hret rfl rfl ?_
   exact ⟨A8, c8, rfl, by have := R.bs.take (k := k) Om; rw [Kdf.sO _ _ _ _ Om] at this; exact this, by have := R.cap; omega, F⟩
 ·intro G Vw
  refine au 25 ?_
  refine dE ?_; intro VC Vx
  refine gn ?_
  refine ae (Vx ?_)
  exact Vw _ _ ⟨0, 0, 0, 0, none, none, rfl, rfl, by omega, Ext.refl _, Row.empty _ _ _, Bs.nil _ none⟩ Ls
end
section
open Go.RowKit Tryz
attribute [local irreducible] Y Ef WL WC WK WQ WM cE
theorem OJ : ym Tryz.prog 127 23 24 := ym.of underlying127 (z := .slice none 0 0) Kr rfl
def iS (w : World) (A : Oa) (vs : List Value) (xss : List (List UInt8)) : Prop :=
 vs.length = xss.length ∧ ∀ i, i < xss.length → ∃ B m c, vs[i]? = some (.slice B m c) ∧ Bs w B m (xss.getD i []) ∧ Dj A B ∧ ∀ b o s, B = some ⟨b, o, s⟩ → b < w.heap.size
theorem iS.nil (w : World) (A : Oa) : iS w A [] [] := ⟨rfl, fun i hi => by cases hi⟩
theorem iS.ext {w w' : World} {A : Oa} {vs : List Value} {xss : List (List UInt8)} (h : iS w A vs xss) (e : Ext w w') : iS w' A vs xss :=
 ⟨h.1, fun i hi => by
  obtain ⟨B, m, c, h1, h2, h3, h4⟩ := h.2 i hi
  exact ⟨B, m, c, h1, h2.ext e, h3, fun b o s hb => Nat.lt_of_lt_of_le (h4 b o s hb) e.size⟩⟩
theorem iS.snoc {w : World} {A B : Oa} {m c : Nat} {vs : List Value} {xs : Lb} {xss : List (List UInt8)} (h : iS w A vs xss) (hb : Bs w B m xs) (hd : Dj A B) (hl : ∀ b o s, B = some ⟨b, o, s⟩ → b < w.heap.size) : iS w A (vs ++ [.slice B m c]) (xss ++ [xs]) :=
 ⟨by simp [h.1], fun i hi => by
  by_cases hlt : i < xss.length
  ·obtain ⟨B', m', c', h1, h2, h3, h4⟩ := h.2 i hlt
   exact ⟨B', m', c', by rw [List.getElem?_append_left (by rw [h.1]; exact hlt)]; exact h1, by simpa [List.getElem?_append, hlt] using h2, h3, h4⟩
  ·have : i = xss.length := by simp at hi; omega
   subst this
   exact ⟨B, m, c, by rw [← h.1]; simp, by simpa using hb, hd, hl⟩⟩
theorem iS.app {w w' : World} {A A' : Oa} {n c n' c' : Nat} {vs : List Value} {xss : List (List UInt8)} (h : iS w A vs xss) (hg : w.grownBy w' (Value.slice A n c).ownBlock)
    (hl : (Value.slice A' n' c').ownBlock = (Value.slice A n c).ownBlock ∨ (Value.slice A' n' c').ownBlock = some w.heap.size) (hA : ∀ b o s, A = some ⟨b, o, s⟩ → s = none) : iS w' A' vs xss :=
  ⟨h.1, fun i hi => by
    obtain ⟨B, m, k, h1, h2, h3, h4⟩ := h.2 i hi
    refine ⟨B, m, k, h1, h2.app h3 hg hA, ?_, fun b o s hb => Nat.lt_of_lt_of_le (h4 b o s hb) hg.size⟩
    intro b o _ o' e1 e2 hbb
    subst e1; subst e2; subst hbb
    have hlt := h4 b o' none rfl
    rcases hl with hl | hl
    · cases A with
      | none => simp [Value.ownBlock] at hl
      | some a =>
        obtain ⟨b2, o2, s⟩ := a
        have := hA b2 o2 s rfl
        subst this
        simp only [Value.ownBlock, Option.some.injEq] at hl
        exact h3 b2 o2 b o' rfl rfl hl.symm
    · simp only [Value.ownBlock, Option.some.injEq] at hl
      omega⟩
theorem GH {w w' : World} {b1 b2 : Nat} {e1 e2 : TypeId} {A B : Oa} {n c m d : Nat} {xs ys : List Value} (h : Row w b1 e1 A n c xs) (k : Row w' b2 e2 B m d ys) (hb : w.heap.size ≤ b2) : Dj A B := fun b o b' o' h1 h2 => by
 subst h1; subst h2
 have h3 := (Row.lt h).2
 have h4 := (Row.lt k).1
 omega
theorem Row.DJ {w : World} {base : Nat} {e : TypeId} {A : Oa} {n c : Nat} {xs : List Value} (h : Row w base e A n c xs) (b o : Nat) (s) (hA : A = some ⟨b, o, s⟩) : b < w.heap.size := by
 have := h.fG b o s hA
 subst this; subst hA
 exact (Row.lt h).2
def Ts (ks is : Lb) (j : Nat) : List (List UInt8) := (List.range j).map fun i => Kdf.T ks is (i + 1)
theorem sU (ks is : Lb) (j : Nat) : (Ts ks is j).length = j := by simp [Ts]
theorem Af (ks is : Lb) (j : Nat) : Ts ks is (j + 1) = Ts ks is j ++ [Kdf.T ks is (j + 1)] := by simp [Ts, List.range_succ]
theorem GV (ks is : Lb) (j i : Nat) (h : i < j) : (Ts ks is j).getD i [] = Kdf.T ks is (i + 1) := by simp [Ts, h]
theorem rE (A B : Oa) (n c m d k : Nat) (ks is : Lb) (w : World) (HA : Bs w A n ks) (hn : n ≤ 35184372088832) (HB : Bs w B m is) (hm : m ≤ 35184372087000) (hk : k ≤ 8160) :
  Ct 116 #[.slice A n c, .slice B m d, .int .i64 (k : Int)] w fun e w' => ∃ A' c', e = .returned (.slice A' k c') ∧ Bs w' A' k (Kdf.expand ks is k) ∧ Ext w w' := by
 refine ai 57 func116 rfl rfl rfl rfl ?_
 intro _ hret
 refine aU ?_
 refine az (fun n' L wr => ∃ (j c7 : Nat) (A7 : Oa) (vs : List Value), L = [(0, .slice A n c), (1, .slice B m d), (2, .int .i64 (k : Int)), (7, .slice A7 j c7), (8, .int .i64 (j : Int))] ∧ n' = 256 - j ∧ (j ≤ (k + 31) / 32 ∧ Ext w wr ∧ Row wr w.heap.size 23 A7 j c7 vs ∧ iS wr A7 vs (Ts ks is j))) _ _ ⟨0, 0, none, [], rfl, rfl, by omega, Ext.refl _, Row.empty _ _ _, iS.nil _ _⟩ Ls ?_
 rintro _ n' L wr ⟨j, c7, A7, vs, rfl, rfl, _, F, R, HP⟩ VY
 refine au 6 ?_
 refine ak (dr rfl rfl Om (IntWalk.i64_quo _ _ Om)) ?_
 refine aU ?_
 refine al rfl (fun V0 => ?_) (fun V0 => ?_)
 ·have hT := Kdf.N7 ks is j
  refine aU ?_
  refine al rfl (fun V4 => ?_) (fun V4 => ?_)
  ·obtain ⟨j', V5⟩ : ∃ j', j = j' + 1 := ⟨j - 1, by omega⟩
   obtain ⟨g, v, rfl, hv, hcell, _⟩ := R.get (i := j') Om
   obtain ⟨D, q, r, hvD, HD, hDj, _⟩ := HP.2 j' (by rw [sU]; omega)
   rw [hv] at hvD
   injection hvD with hvD
   subst hvD
   rw [GV ks is j j' Om, ← V5] at HD
   have hTl := HD.1
   refine au 5 ?_
   refine ak (aw rfl rfl Tn.u Kr (j := j') Om Om) ?_
   refine ak (af rfl Tn.u rfl hcell) ?_
   refine ag (gG rfl rfl cB (Row.empty _ wr.heap.size _) HD.2 (by rw [List.length_map, HD.1]) aM Om Om (Nat.le_refl _)) rfl ?_
   rintro _ w7 ⟨_, _, rfl, R9, be, gr, hl⟩
   have x7 : Ext wr w7 := be
   have VF := x7.size
   refine aU ?_
   refine ag (bd rfl rfl cB R9 (HB.wk (F.ext x7)).2 (by rw [List.length_map, HB.1]) aM Om Om VF) rfl ?_
   rintro _ w8 ⟨Vz, c10, rfl, VG, be, gr, hl⟩
   have x8 : Ext wr w8 := x7.trans be; have VH := VG.cat
   refine au 2 ?_
   refine ak (bg rfl Tn.u Tn.u (lX (x := j + 1) Om)) ?_
   refine ag (aK (z := .int .u8 0) Tn.u Kr rfl rfl rfl rfl rfl) rfl ?_
   rintro _ w9 ⟨g9, rfl, B9, V6, ex⟩
   have x9 := x8.ext ex; have VI := VH.ext ex; have VJ := x9.size
   refine ag (bd rfl rfl cB VI (At.gX (vs := [UInt8.ofNat (j + 1)].map bv) (B9.congr rfl)) rfl aM Om Om VJ) rfl ?_
   rintro _ VK ⟨V7, VL, rfl, VM, be, gr, hl⟩
   have Vw : Ext wr VK := x9.trans be; have VN := VM.cat.bs
   refine aU ?_
   refine aB func18 rfl (lr A _ n c _ VL ks _ _ (HA.wk (F.ext Vw)) hn VN Om) ?_
   rintro e V8 ⟨V9, VO, rfl, Vx, ex⟩
   refine aU ?_
   have VA := Vw.ext ex; have VP := R.ext VA; have hdj := GH (R.ext Vw) Vx (Nat.le_refl _)
   refine ag (aK (z := .slice none 0 0) Tn.u Kr rfl rfl rfl rfl rfl) rfl ?_
   rintro _ Wa ⟨Wb, rfl, VQ, VR, ex⟩
   have VB := VA.ext ex; have VC := F.ext VB; have Vy := VC.size; have VD := VP.ext ex; have VS := ((HP.ext VB).snoc (c := VO) (Vx.ext ex).bs hdj (Vx.ext ex).DJ)
   refine ag (bd rfl rfl OJ VD (At.gX VQ) rfl (by intro u hu; simp at hu; subst hu; rfl) Om Om Vy) rfl ?_
   rintro _ Wc ⟨VT, VU, rfl, VV, be, gr, hl⟩
   have VW := VC.trans be; have VE := VS.app gr hl VD.fG; rw [show Mac.tag ks (Kdf.T ks is j ++ is ++ [UInt8.ofNat (j + 1)]) = Kdf.T ks is (j + 1) from rfl, ← Af] at VE
   refine au 9 ?_
   refine ae ?_
   refine VY _ _ ⟨j + 1, VU, VT, _, rfl, rfl, by omega, VW, VV, VE⟩ Om Ls
  ·have x7 := Ext.refl wr; have R9 : Row wr wr.heap.size 5 none 0 0 ((Kdf.T ks is j).map bv) := by
    obtain rfl : j = 0 := by omega
    exact Row.empty _ _ _
   have VF := x7.size
   refine aU ?_
   refine ag (bd rfl rfl cB R9 (HB.wk (F.ext x7)).2 (by rw [List.length_map, HB.1]) aM Om Om VF) rfl ?_
   rintro _ w8 ⟨Vz, c10, rfl, VG, be, gr, hl⟩
   have x8 : Ext wr w8 := x7.trans be; have VH := VG.cat
   refine au 2 ?_
   refine ak (bg rfl Tn.u Tn.u (lX (x := j + 1) Om)) ?_
   refine ag (aK (z := .int .u8 0) Tn.u Kr rfl rfl rfl rfl rfl) rfl ?_
   rintro _ w9 ⟨g9, rfl, B9, V6, ex⟩
   have x9 := x8.ext ex; have VI := VH.ext ex; have VJ := x9.size
   refine ag (bd rfl rfl cB VI (At.gX (vs := [UInt8.ofNat (j + 1)].map bv) (B9.congr rfl)) rfl aM Om Om VJ) rfl ?_
   rintro _ VK ⟨V7, VL, rfl, VM, be, gr, hl⟩
   have Vw : Ext wr VK := x9.trans be; have VN := VM.cat.bs
   refine aU ?_
   refine aB func18 rfl (lr A _ n c _ VL ks _ _ (HA.wk (F.ext Vw)) hn VN Om) ?_
   rintro e V8 ⟨V9, VO, rfl, Vx, ex⟩
   refine aU ?_
   have VA := Vw.ext ex; have VP := R.ext VA; have hdj := GH (R.ext Vw) Vx (Nat.le_refl _)
   refine ag (aK (z := .slice none 0 0) Tn.u Kr rfl rfl rfl rfl rfl) rfl ?_
   rintro _ Wa ⟨Wb, rfl, VQ, VR, ex⟩
   have VB := VA.ext ex; have VC := F.ext VB; have Vy := VC.size; have VD := VP.ext ex; have VS := ((HP.ext VB).snoc (c := VO) (Vx.ext ex).bs hdj (Vx.ext ex).DJ)
   refine ag (bd rfl rfl OJ VD (At.gX VQ) rfl (by intro u hu; simp at hu; subst hu; rfl) Om Om Vy) rfl ?_
   rintro _ Wc ⟨VT, VU, rfl, VV, be, gr, hl⟩
   have VW := VC.trans be; have VE := VS.app gr hl VD.fG; rw [show Mac.tag ks (Kdf.T ks is j ++ is ++ [UInt8.ofNat (j + 1)]) = Kdf.T ks is (j + 1) from rfl, ← Af] at VE
   refine au 9 ?_
   refine ae ?_
   refine VY _ _ ⟨j + 1, VU, VT, _, rfl, rfl, by omega, VW, VV, VE⟩ Om Ls
 ·obtain ⟨q, hq⟩ : ∃ q, q = (k + 31) / 32 := ⟨_, rfl⟩
  obtain rfl : j = q := by omega
  refine aU ?_
  refine az (fun n' L ws => ∃ (i c10 : Nat) (Vz : Oa), L = [(2, .int .i64 (k : Int)), (7, .slice A7 j c7), (10, .slice Vz (32 * i) c10), (11, .int .i64 (i : Int))] ∧ n' = j - i ∧ (i ≤ j ∧ Ext wr ws ∧ Row ws wr.heap.size 5 Vz (32 * i) c10 ((Kdf.xG ks is i).map bv))) _ _ ⟨0, 0, none, rfl, rfl, by omega, Ext.refl _, Row.empty _ _ _⟩ Ls ?_
  rintro _ n' L ws ⟨i, c10, Vz, rfl, rfl, _, G, S⟩ We
  refine aU ?_
  refine al rfl (fun Wf => ?_) (fun Wf => ?_)
  ·obtain ⟨g, v, rfl, hv, hcell, _⟩ := (R.ext G).get (i := i) Om
   obtain ⟨D, q, r, hvD, HD, hDj, _⟩ := (HP.ext G).2 i (by rw [sU]; omega)
   rw [hv] at hvD
   injection hvD with hvD
   subst hvD
   rw [GV ks is j i Om] at HD
   have hTl := HD.1
   rw [Kdf.vD] at hTl
   have hsG := G.size
   refine au 8 ?_
   refine ak (aw rfl rfl Tn.u Kr (j := i) rfl Om) ?_
   refine ak (af rfl Tn.u rfl hcell) ?_
   refine ag (bd rfl rfl cB S HD.2 (by rw [List.length_map, HD.1]) aM Om Om hsG) rfl ?_
   rintro _ Wg ⟨Wh, Wi, rfl, Wj, be, gr, hl⟩
   have Wk : Ext wr Wg := G.trans be; have VZ := Wj.cat; rw [show Kdf.xG ks is i ++ Kdf.T ks is (i + 1) = Kdf.xG ks is (i + 1) from rfl, ← hTl] at VZ
   refine au 9 ?_
   refine ae ?_
   have VX : q = 32 := by omega
   subst VX
   refine We _ _ ⟨i + 1, Wi, Wh, rfl, rfl, by omega, Wk, VZ⟩ Om Ls
  ·refine au 9 ?_
   refine ak (kv (s := 1) rfl rfl Tn.u Kr (j := k) rfl (by have := S.cap; omega)) ?_
   refine aU ?_
   refine hret rfl ?_
   exact ⟨Vz, c10, rfl, by have := S.bs.take (k := k) Om; rw [Kdf.sO _ _ _ _ Om] at this; exact this, F.ext G⟩
end
end Go.Proofs.YtgfafidlkldeaaaGreat
