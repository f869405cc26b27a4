/- Bytes that are taken by wire's reader: what each of its functions hands back and leaves. Lengths and vectors that are taken by wire's reader. The reference's lengths, vectors, numbers and flags at a place of bytes. -/
import Derived.Test.YtgfafidlkldeaaaGreatVc
import Derived.Test.YtgfafidlkldeaaaGreatChunkA
import Derived.Test.YtgfafidlkldeaaaGreatMacB
import Derived.Test.YtgfafidlkldeaaaGreatAu
import Derived.Test.YtgfafidlkldeaaaGreatVc7
set_option linter.unusedVariables false
set_option linter.unusedSimpArgs false
set_option maxHeartbeats 4000000
set_option maxRecDepth 4000
namespace Go.Proofs.YtgfafidlkldeaaaGreat
open Go.RowKit Tryz
attribute [local irreducible] Ef WC WF WK WL WM WN WQ Y cu db
variable {cs : Array Value} {z : Int} {r t xs ys : Lb} {xss : List (List UInt8)} {S S' : List Nat} {vs : List Value} {N b1 b2 base c g k m n q s x : Nat} {spare : Nat → Bool} {A A' B : Oa} {e e1 e2 : TypeId} {b : UInt8} {W w w' : aa9}
theorem IA (hx : xs.length = n) (hy : ys.length = n) (hk : k < n) (h : xs.take k = ys.take k) (e : xs.getD k 0 = ys.getD k 0) : xs.take (k + 1) = ys.take (k + 1) := by rw [List.take_succ_eq_append_getElem Om, List.take_succ_eq_append_getElem Om, h];congr 1;simpa [hx, hy, hk] using e
theorem QK (e : xs.getD k 0 ≠ ys.getD k 0) : xs ≠ ys := fun h => e (by rw [h])
theorem zh (A B : Oa) (n m c d : Nat) (xs ys : Lb) (w : aa9) (ha : Bs w A n xs) (hb : Bs w B m ys) (hn : n ≤ 140737488355328) (hm : m ≤ 140737488355328) :
  Calls Tryz.prog 26 #[.slice A n c, .slice B m d] w fun e w' => e = .returned (.bool (decide (xs = ys))) ∧ ∃ k, w' = w.drewN k := by
 by_cases hnm : n = m
 ·subst hnm;have HA := Lib.hid ha; have HB := Lib.hid hb;clear ha hb;go_enter func26, ntmps26;go_wp2;go_loopw [5] (fun i wr => ∃ k q : Nat, k ≤ n ∧ i = .int .i64 k ∧ wr = w.drewN q ∧ xs.take k = ys.take k) (fun i _ => n - (intOf i).toNat);case atStart => exact ⟨0, 0, Nat.zero_le _, rfl, rfl, rfl⟩
  case round =>
   obtain ⟨k, q, hk, rfl, rfl, heq⟩ := hrel
   have HE := Lib.hid heq
   clear heq
   by_cases hlt : k < n
   ·obtain ⟨b, off, x, rfl, hx, hcx⟩ := HA.out.byte hlt
    obtain ⟨b', YU, y, rfl, hy, hcy⟩ := HB.out.byte hlt
    by_cases he : x = y
    ·subst he
     go_wp2_with fail
     go_quiet (fail)
     go_wp2
     go_roundw
     case rel => exact ⟨k + 1, _, Om, by go_num, rfl, IA HA.out.1 HB.out.1 hlt HE.out (hx.out.symm.trans hy.out)⟩
     case measure => simp [intOf]; omega
    have hne : ((x.toNat : Int) != (y.toNat : Int)) = true := by rw [bne_iff_ne];intro h;exact he (UInt8.toNat_inj.1 Om)
    have hxy : xs ≠ ys := QK (k := k) (by rw [← hx.out, ← hy.out]; exact he)
    have HXY := Lib.hid hxy
    clear hxy he
    go_wp2_with fail
    go_quiet (fail)
    go_wp2
    go_ret
    exact ⟨by rw [decide_eq_false HXY.out]; rfl, _, by rw [World.drewN_drewN]⟩
   go_wp2
   go_ret
   have h := HE.out
   rw [List.take_of_length_le (by rw [HA.out.1]; omega), List.take_of_length_le (by rw [HB.out.1]; omega)] at h
   exact ⟨by rw [decide_eq_true h]; rfl, _, rfl⟩
 have hxy : xs ≠ ys := fun e => hnm (by rw [← ha.1, ← hb.1, e]);have HXY := Lib.hid hxy;clear hxy ha hb;go_enter func26, ntmps26;go_wp2;go_ret;exact ⟨by rw [decide_eq_false HXY.out]; rfl, 0, rfl⟩
theorem TO {xs : List Value} (h : Row w base e A n c xs) (hg : w.heap.size ≤ g) : Dj A (cf g) := fun b o b' o' h1 h2 => by
 subst h1;injection h2 with h2
 injection h2 with h2 _ _
 have := (Row.lt h).2;omega
theorem tH (A B : Oa) (n c m d k : Nat) (ks is : Lb) (w : aa9) (HA : Bs w A n ks) (hn : n ≤ 35184372088832) (HB : Bs w B m is) (hm : m ≤ 35184372087000) (hk : k ≤ 8160) :
  Ct 191 #[.slice A n c, .slice B m d, .int .i64 (k : Int)] w fun e w' => ∃ A' c', e = .returned (.tuple #[.slice A' k c', .int .u8 0]) ∧ Bn w.heap.size w' A' k (Kdf.expand ks is k) ∧ k ≤ c' ∧ Ext w w' := by
 refine aZ 36 func191 ?_;intro _ aa4;refine aU ?_;refine gj 0 (fun n' L wr => ∃ (j c8 m9 c9 : Nat) (A8 A9 : Oa), L = [(0, .slice A n c), (1, .slice B m d), (2, .int .i64 (k : Int)), (8, .slice A8 (32 * j) c8), (9, .slice A9 m9 c9), (10, .int .u8 (j : Int))] ∧ n' = 256 - j ∧ (j ≤ 255 ∧ Ext w wr ∧ Row wr w.heap.size 5 A8 (32 * j) c8 ((Kdf.BA ks is j).map bv) ∧ Bs wr A9 m9 (Kdf.T ks is j))) rfl ?_ ?_
 ·rintro G n' L wr ⟨j, c8, m9, c9, A8, A9, rfl, rfl, _, F, R, H9⟩ YU;refine aa1 (fun YW => ?_) (fun YW => ?_)
  ·have hcnt : (UInt8.ofNat (j + 1)).toNat = j + 1 := by rw [UInt8.toNat_ofNat']; omega
   have hT := Kdf.UU ks is j;refine au 3 ?_;refine ak (aO rfl rfl (nW (x := j + 1) Om)) ?_;refine aU ?_;refine af (aF (z := .int .u8 0) Tn.u Kr rfl rfl rfl rfl rfl) rfl ?_;rintro _ w4 ⟨g4, rfl, B4, _, ex⟩;have F4 := F.ext ex; have H4 : Bs w4 (cf g4) 1 [UInt8.ofNat (j + 1)] := aX (xs := [UInt8.ofNat (j + 1)]) (B4.congr rfl) rfl; have YX := H9.ext ex; have Ra := R.ext ex;refine af (aF (z := .slice none 0 0) Tn.u Kr rfl rfl rfl rfl rfl) rfl ?_;rintro _ _ ⟨_, rfl, B5, _, ex⟩;have F5 := F4.ext ex; have S5 := km B5 (YX.ext ex) (HB.wk F5) (H4.ext ex); have Rb := Ra.ext ex;refine aB func112 rfl (wS A _ n c 3 3 ks _ _ (HA.wk F5) hn S5 Om (by simp [HB.1]; omega)) ?_;rintro e _ ⟨g6, rfl, YY, B6, ex⟩;have F6 := F5.ext ex; have H6 := aX B6 (Mac.du _ _); have hdj := TO Rb YY; have Rc := Rb.ext ex; have YZ := F6.size;refine aU ?_;refine af (aT rfl rfl bV Rc H6.2 (by rw [List.length_map, Mac.du]) aJ Om Om YZ) rfl ?_;rintro _ _ ⟨A7, c7, rfl, R7, be, gr, _⟩;have F7 := F6.trans be; have R8 := R7.cat; have H8 := H6.app hdj gr Rc.gQ; have hTj : Mac.tag ks [Kdf.T ks is j, is, [UInt8.ofNat (j + 1)]].flatten = Kdf.T ks is (j + 1) := by simp [Kdf.T]
   rw [hTj] at R8 H8;refine aU ?_;refine bW ?_;refine YU _ _ ⟨j + 1, c7, 32, 32, A7, some ⟨g6, 0, none⟩, rfl, rfl, Om, F7, R8, H8⟩ Om Ls
  refine au 6 ?_;refine ak (j8 (s := 1) rfl rfl Tn.u Kr (j := k) rfl (by have := R.cap; omega)) ?_;refine aU ?_;refine bQ ?_;exact aa4 rfl rfl ⟨A8, c8, rfl, ⟨by have := R.bs.take (k := k) Om; rw [Kdf.vi _ _ _ _ Om] at this; exact this, R.bn.2⟩, by have := R.cap; omega, F⟩
 intro G YU;refine au 25 ?_;refine dB ?_; intro Y0 YV;refine iL ?_;refine ae (YV ?_);exact YU _ _ ⟨0, 0, 0, 0, none, none, rfl, rfl, Om, Ext.refl _, Row.empty _ _ _, Bs.nil _ none⟩ Ls
theorem Vu : Cf Tryz.prog 127 23 24 := Cf.of underlying127 (z := .slice none 0 0) Kr rfl
def kM (w : aa9) (A : Oa) (vs : List Value) (xss : List (List UInt8)) : Prop :=
 vs.length = xss.length ∧ ∀ i, i < xss.length → ∃ B m c, vs[i]? = some (.slice B m c) ∧ Bs w B m (xss.getD i []) ∧ Dj A B ∧ ∀ b o s, B = some ⟨b, o, s⟩ → b < w.heap.size
theorem kM.nil (w : aa9) (A : Oa) : kM w A [] [] := ⟨rfl, fun i hi => by cases hi⟩
theorem kM.ext (h : kM w A vs xss) (e : Ext w w') : kM w' A vs xss :=
 ⟨h.1, fun i hi => by
  obtain ⟨B, m, c, h1, h2, h3, h4⟩ := h.2 i hi
  exact ⟨B, m, c, h1, h2.ext e, h3, fun b o s hb => Nat.lt_of_lt_of_le (h4 b o s hb) e.size⟩⟩
theorem kM.snoc (h : kM w A vs xss) (hb : Bs w B m xs) (hd : Dj A B) (hl : ∀ b o s, B = some ⟨b, o, s⟩ → b < w.heap.size) : kM w A (vs ++ [.slice B m c]) (xss ++ [xs]) :=
 ⟨by simp [h.1], fun i hi => by
  by_cases hlt : i < xss.length
  ·obtain ⟨B', m', c', h1, h2, h3, h4⟩ := h.2 i hlt;exact ⟨B', m', c', by rw [List.getElem?_append_left (by rw [h.1]; exact hlt)]; exact h1, by simpa [List.getElem?_append, hlt] using h2, h3, h4⟩
  have : i = xss.length := by simp at hi; omega
  subst this
  exact ⟨B, m, c, by rw [← h.1]; simp, by simpa using hb, hd, hl⟩⟩
theorem kM.app {n' c' : Nat} (h : kM w A vs xss) (hg : w.grownBy w' (Value.slice A n c).ownBlock)
    (hl : (Value.slice A' n' c').ownBlock = (Value.slice A n c).ownBlock ∨ (Value.slice A' n' c').ownBlock = some w.heap.size) (hA : ∀ b o s, A = some ⟨b, o, s⟩ → s = none) : kM w' A' vs xss :=
  ⟨h.1, fun i hi => by
    obtain ⟨B, m, k, h1, h2, h3, h4⟩ := h.2 i hi;refine ⟨B, m, k, h1, h2.app h3 hg hA, ?_, fun b o s hb => Nat.lt_of_lt_of_le (h4 b o s hb) hg.size⟩;intro b o _ o' e1 e2 hbb;subst e1; subst e2; subst hbb;have hlt := h4 b o' none rfl;rcases hl with hl | hl
    · cases A with
      | none => simp [Value.ownBlock] at hl
      | some a =>
        obtain ⟨b2, o2, s⟩ := a
        have := hA b2 o2 s rfl
        subst this
        simp only [Value.ownBlock, Option.some.injEq] at hl
        exact h3 b2 o2 b o' rfl rfl hl.symm
    simp only [Value.ownBlock, Option.some.injEq] at hl
    omega⟩
theorem Km {d : Nat} {xs ys : List Value} (h : Row w b1 e1 A n c xs) (k : Row w' b2 e2 B m d ys) (hb : w.heap.size ≤ b2) : Dj A B := fun b o b' o' h1 h2 => by subst h1; subst h2;have h3 := (Row.lt h).2;have h4 := (Row.lt k).1;omega
theorem Row.MU {xs : List Value} (h : Row w base e A n c xs) (b o : Nat) (s) (hA : A = some ⟨b, o, s⟩) : b < w.heap.size := by have := h.gQ b o s hA;subst this; subst hA;exact (Row.lt h).2
def Ts (ks is : Lb) (j : Nat) : List (List UInt8) := (List.range j).map fun i => Kdf.T ks is (i + 1)
theorem wN (ks is : Lb) (j : Nat) : (Ts ks is j).length = j := by simp [Ts]
theorem GK (ks is : Lb) (j : Nat) : Ts ks is (j + 1) = Ts ks is j ++ [Kdf.T ks is (j + 1)] := by simp [Ts, List.range_succ]
theorem M9 (ks is : Lb) (j i : Nat) (h : i < j) : (Ts ks is j).getD i [] = Kdf.T ks is (i + 1) := by simp [Ts, h]
theorem nZ (A B : Oa) (n c m d k : Nat) (ks is : Lb) (w : aa9) (HA : Bs w A n ks) (hn : n ≤ 35184372088832) (HB : Bs w B m is) (hm : m ≤ 35184372087000) (hk : k ≤ 8160) :
  Ct 116 #[.slice A n c, .slice B m d, .int .i64 (k : Int)] w fun e w' => ∃ A' c', e = .returned (.slice A' k c') ∧ Bs w' A' k (Kdf.expand ks is k) ∧ Ext w w' := by
 refine ai 57 func116 ?_;intro _ aa4;refine aU ?_;refine aE (fun n' L wr => ∃ (j c7 : Nat) (A7 : Oa) (vs : List Value), L = [(0, .slice A n c), (1, .slice B m d), (2, .int .i64 (k : Int)), (7, .slice A7 j c7), (8, .int .i64 (j : Int))] ∧ n' = 256 - j ∧ (j ≤ (k + 31) / 32 ∧ Ext w wr ∧ Row wr w.heap.size 23 A7 j c7 vs ∧ kM wr A7 vs (Ts ks is j))) _ _ ⟨0, 0, none, [], rfl, rfl, Om, Ext.refl _, Row.empty _ _ _, kM.nil _ _⟩ Ls ?_;rintro _ n' L wr ⟨j, c7, A7, vs, rfl, rfl, _, F, R, HP⟩ Zt;refine au 6 ?_;refine ak (dI rfl rfl Om (IntWalk.i64_quo _ _ Om)) ?_;refine aa1 (fun Zv => ?_) (fun Zv => ?_)
 ·have hT := Kdf.UU ks is j;refine aa1 (fun Zw => ?_) (fun Zw => ?_)
  ·obtain ⟨j', Zx⟩ : ∃ j', j = j' + 1 := ⟨j - 1, Om⟩
   obtain ⟨g, v, rfl, hv, aa7, _⟩ := R.get (i := j') Om;obtain ⟨D, q, r, hvD, HD, hDj, _⟩ := HP.2 j' (by rw [wN]; omega);rw [hv] at hvD;injection hvD with hvD
   subst hvD;rw [M9 ks is j j' Om, ← Zx] at HD;have hTl := HD.1;refine au 5 ?_;refine ak (aC rfl rfl Tn.u Kr (j := j') Om Om) ?_;refine ak (ah rfl Tn.u rfl aa7) ?_;refine af (iA rfl rfl bV (Row.empty _ wr.heap.size _) HD.2 (by rw [List.length_map, HD.1]) aJ Om Om (Nat.le_refl _)) rfl ?_;rintro _ w7 ⟨_, _, rfl, R9, be, gr, hl⟩;have x7 : Ext wr w7 := be;have Za := x7.size;refine aU ?_;refine af (aT rfl rfl bV R9 (HB.wk (F.ext x7)).2 (by rw [List.length_map, HB.1]) aJ Om Om Za) rfl ?_;rintro _ w8 ⟨YX, c10, rfl, Zb, be, gr, hl⟩;have x8 : Ext wr w8 := x7.trans be; have Zc := Zb.cat;refine au 2 ?_;refine ak (bc rfl Tn.u Tn.u (nW (x := j + 1) Om)) ?_;refine af (aF (z := .int .u8 0) Tn.u Kr rfl rfl rfl rfl rfl) rfl ?_;rintro _ w9 ⟨g9, rfl, B9, Zy, ex⟩;have x9 := x8.ext ex; have Zd := Zc.ext ex; have Ze := x9.size;refine af (aT rfl rfl bV Zd (At.fA (vs := [UInt8.ofNat (j + 1)].map bv) (B9.congr rfl)) rfl aJ Om Om Ze) rfl ?_;rintro _ Zf ⟨Zz, Zg, rfl, Zh, be, gr, hl⟩;have YU : Ext wr Zf := x9.trans be; have Zi := Zh.cat.bs;refine aU ?_;refine aB func18 rfl (kJ A _ n c _ Zg ks _ _ (HA.wk (F.ext YU)) hn Zi Om) ?_;rintro e ZA ⟨ZB, Zj, rfl, YV, ex⟩;refine aU ?_;have YY := YU.ext ex; have Zk := R.ext YY; have hdj := Km (R.ext YU) YV (Nat.le_refl _);refine af (aF (z := .slice none 0 0) Tn.u Kr rfl rfl rfl rfl rfl) rfl ?_;rintro _ ZC ⟨ZD, rfl, Zl, Zm, ex⟩
   have YZ := YY.ext ex; have Y0 := F.ext YZ; have YW := Y0.size; have Y2 := Zk.ext ex; have Zn := ((HP.ext YZ).snoc (c := Zj) (YV.ext ex).bs hdj (YV.ext ex).MU)
   refine af (aT rfl rfl Vu Y2 (At.fA Zl) rfl (by intro u hu; simp at hu; subst hu; rfl) Om Om YW) rfl ?_;rintro _ ZE ⟨Zo, Zp, rfl, Zq, be, gr, hl⟩;have Zr := Y0.trans be; have Y3 := Zn.app gr hl Y2.gQ; rw [show Mac.tag ks (Kdf.T ks is j ++ is ++ [UInt8.ofNat (j + 1)]) = Kdf.T ks is (j + 1) from rfl, ← GK] at Y3;refine au 9 ?_;refine ae ?_;refine Zt _ _ ⟨j + 1, Zp, Zo, _, rfl, rfl, Om, Zr, Zq, Y3⟩ Om Ls
  have x7 := Ext.refl wr; have R9 : Row wr wr.heap.size 5 none 0 0 ((Kdf.T ks is j).map bv) := by
   obtain rfl : j = 0 := Om
   exact Row.empty _ _ _
  have Za := x7.size;refine aU ?_;refine af (aT rfl rfl bV R9 (HB.wk (F.ext x7)).2 (by rw [List.length_map, HB.1]) aJ Om Om Za) rfl ?_;rintro _ w8 ⟨YX, c10, rfl, Zb, be, gr, hl⟩;have x8 : Ext wr w8 := x7.trans be; have Zc := Zb.cat;refine au 2 ?_;refine ak (bc rfl Tn.u Tn.u (nW (x := j + 1) Om)) ?_;refine af (aF (z := .int .u8 0) Tn.u Kr rfl rfl rfl rfl rfl) rfl ?_;rintro _ w9 ⟨g9, rfl, B9, Zy, ex⟩;have x9 := x8.ext ex; have Zd := Zc.ext ex; have Ze := x9.size;refine af (aT rfl rfl bV Zd (At.fA (vs := [UInt8.ofNat (j + 1)].map bv) (B9.congr rfl)) rfl aJ Om Om Ze) rfl ?_;rintro _ Zf ⟨Zz, Zg, rfl, Zh, be, gr, hl⟩;have YU : Ext wr Zf := x9.trans be; have Zi := Zh.cat.bs;refine aU ?_;refine aB func18 rfl (kJ A _ n c _ Zg ks _ _ (HA.wk (F.ext YU)) hn Zi Om) ?_;rintro e ZA ⟨ZB, Zj, rfl, YV, ex⟩;refine aU ?_;have YY := YU.ext ex; have Zk := R.ext YY; have hdj := Km (R.ext YU) YV (Nat.le_refl _);refine af (aF (z := .slice none 0 0) Tn.u Kr rfl rfl rfl rfl rfl) rfl ?_;rintro _ ZC ⟨ZD, rfl, Zl, Zm, ex⟩
  have YZ := YY.ext ex; have Y0 := F.ext YZ; have YW := Y0.size; have Y2 := Zk.ext ex; have Zn := ((HP.ext YZ).snoc (c := Zj) (YV.ext ex).bs hdj (YV.ext ex).MU)
  refine af (aT rfl rfl Vu Y2 (At.fA Zl) rfl (by intro u hu; simp at hu; subst hu; rfl) Om Om YW) rfl ?_;rintro _ ZE ⟨Zo, Zp, rfl, Zq, be, gr, hl⟩;have Zr := Y0.trans be; have Y3 := Zn.app gr hl Y2.gQ; rw [show Mac.tag ks (Kdf.T ks is j ++ is ++ [UInt8.ofNat (j + 1)]) = Kdf.T ks is (j + 1) from rfl, ← GK] at Y3;refine au 9 ?_;refine ae ?_;refine Zt _ _ ⟨j + 1, Zp, Zo, _, rfl, rfl, Om, Zr, Zq, Y3⟩ Om Ls
 obtain ⟨q, hq⟩ : ∃ q, q = (k + 31) / 32 := ⟨_, rfl⟩
 obtain rfl : j = q := Om
 refine aU ?_;refine aE (fun n' L ws => ∃ (i c10 : Nat) (YX : Oa), L = [(2, .int .i64 (k : Int)), (7, .slice A7 j c7), (10, .slice YX (32 * i) c10), (11, .int .i64 (i : Int))] ∧ n' = j - i ∧ (i ≤ j ∧ Ext wr ws ∧ Row ws wr.heap.size 5 YX (32 * i) c10 ((Kdf.BA ks is i).map bv))) _ _ ⟨0, 0, none, rfl, rfl, Om, Ext.refl _, Row.empty _ _ _⟩ Ls ?_;rintro _ n' L ws ⟨i, c10, YX, rfl, rfl, _, G, S⟩ ZF;refine aa1 (fun ZG => ?_) (fun ZG => ?_)
 ·obtain ⟨g, v, rfl, hv, aa7, _⟩ := (R.ext G).get (i := i) Om;obtain ⟨D, q, r, hvD, HD, hDj, _⟩ := (HP.ext G).2 i (by rw [wN]; omega);rw [hv] at hvD;injection hvD with hvD
  subst hvD;rw [M9 ks is j i Om] at HD;have hTl := HD.1;rw [Kdf.Bv] at hTl;have hsG := G.size;refine au 8 ?_;refine ak (aC rfl rfl Tn.u Kr (j := i) rfl Om) ?_;refine ak (ah rfl Tn.u rfl aa7) ?_;refine af (aT rfl rfl bV S HD.2 (by rw [List.length_map, HD.1]) aJ Om Om hsG) rfl ?_;rintro _ ZH ⟨ZI, ZJ, rfl, ZK, be, gr, hl⟩;have ZL : Ext wr ZH := G.trans be; have Zu := ZK.cat; rw [show Kdf.BA ks is i ++ Kdf.T ks is (i + 1) = Kdf.BA ks is (i + 1) from rfl, ← hTl] at Zu;refine au 9 ?_;refine ae ?_;have Zs : q = 32 := Om
  subst Zs;refine ZF _ _ ⟨i + 1, ZJ, ZI, rfl, rfl, Om, ZL, Zu⟩ Om Ls
 refine au 9 ?_;refine ak (j8 (s := 1) rfl rfl Tn.u Kr (j := k) rfl (by have := S.cap; omega)) ?_;refine aU ?_;exact aa4 rfl ⟨YX, c10, rfl, by have := S.bs.take (k := k) Om; rw [Kdf.vi _ _ _ _ Om] at this; exact this, F.ext G⟩
theorem rE (A B : Oa) (n c m d : Nat) (xs ys : Lb) (w : aa9) (HA : Bs w A n xs) (hn : n ≤ 35184372088832) (HB : Bs w B m ys) (hm : m ≤ 35184372088000) :
  Ct 99 #[.slice A n c, .slice B m d] w fun e w' => ∃ A' c', e = .returned (.slice A' 32 c') ∧ Bs w' A' 32 (Mac.tag xs ys) ∧ Ext w w' := by
 have E := Ext.refl w;refine ai 9 func99 ?_;intro _ aa4;refine aU ?_;refine af (aF (z := .slice none 0 0) Tn.u Kr rfl rfl rfl rfl rfl) rfl ?_;rintro _ _ ⟨_, rfl, B1, _, ex⟩;obtain ⟨HA,HB,E⟩ := bh ex HA HB E;have S1 := nE B1 HB;refine aB func112 rfl (wS A _ n c 1 1 xs _ _ HA hn S1 Om (by simp [HB.1]; omega)) ?_;rintro e _ ⟨_, rfl, _, B2, ex⟩;replace E := E.ext ex;have H2 := aX B2 (Mac.du _ _);refine aU ?_;exact aa4 rfl ⟨_, _, rfl, by simpa using H2, E⟩
theorem ri (A B : Oa) (n c m d k : Nat) (s : ByteArray) (ks cs : Lb) (w : aa9) (HA : Bs w A n ks) (hn : n ≤ 35184372088832) (hs : s.size ≤ 1048576) (HB : Bs w B m cs) (hm : m ≤ 1048576) (hk : k ≤ 8160) :
  Ct 130 #[.slice A n c, .string s, .slice B m d, .int .i64 (k : Int)] w fun e w' => ∃ A' c', e = .returned (.tuple #[.slice A' k c', .int .u8 0]) ∧ Bn w.heap.size w' A' k (Kdf.label ks s.data.toList cs k) ∧ k ≤ c' ∧ Ext w w' := by
 have E := Ext.refl w;have YY := Wire.bH (8 + s.size); have YZ := Wire.bH m;have hcs : (⟨#[77, 76, 83, 32, 49, 46, 48, 32]⟩ : ByteArray).size = 8 := rfl;refine aZ 43 func130 ?_;intro _ aa4;refine au 23 ?_;refine ak (IL rfl Tn.u) ?_;refine aU ?_;refine aB func131 rfl (ij none 0 0 2 k [] _ (Bs.nil _ _) Om Om Om) ?_;rintro e _ ⟨A1, c1, rfl, R1, ex⟩;obtain ⟨HA,HB,E⟩ := bh ex HA HB E;have H1 := R1.bs;refine au 8 ?_;refine ak (tp rfl rfl Om) ?_;refine af (oJ rfl Tn.u Tn.u Tn.u) rfl ?_;rintro _ _ ⟨_, c2, rfl, H2, _, ex⟩;obtain ⟨HA,HB,E,H1⟩ := bG ex HA HB E H1;rw [xF, eC] at H2;refine aB func162 rfl (dS A1 _ _ c1 _ c2 _ _ _ H1 Om (by rw [eC]; exact H2) (by rw [eC]; omega)) ?_;rintro e _ ⟨A3, k3, c3, rfl, R3, YU, ex⟩;obtain ⟨HA,HB,E⟩ := bh ex HA HB E;have H3 := R3.bs; rw [eC] at YU;refine aU ?_;refine aB func162 rfl (dS A3 B k3 c3 m d _ cs _ H3 Om HB Om) ?_;rintro e _ ⟨A4, k4, c4, rfl, R4, _, ex⟩;obtain ⟨HA,E⟩ := aS ex HA E;have H4 := R4.bs;refine aU ?_;have YV := E.size;refine aB func191 rfl (tH A A4 n c k4 c4 k ks _ _ HA hn H4 Om hk) ?_;rintro e _ ⟨A5, c5, rfl, ⟨H5, YW⟩, YX, ex⟩;replace E := E.ext ex;refine aU ?_;exact aa4 rfl rfl ⟨A5, c5, rfl, Bn.lo ⟨H5, YW⟩ YV, YX, E⟩
theorem jB (A : Oa) (n c : Nat) (s : ByteArray) (ks : Lb) (w : aa9) (HA : Bs w A n ks) (hn : n ≤ 35184372088832) (hs : s.size ≤ 1048576) :
  Ct 67 #[.slice A n c, .string s] w fun e w' => ∃ A' c', e = .returned (.slice A' 32 c') ∧ Bn w.heap.size w' A' 32 (Kdf.label ks s.data.toList [] 32) ∧ Ext w w' := by
 refine ai 14 func67 ?_;intro _ aa4;refine aU ?_;refine aB func130 rfl (ri A none n c 0 0 32 s ks [] _ HA hn hs (Bs.nil _ _) Om Om) ?_;rintro e _ ⟨A1, c1, rfl, H1, _, ex⟩;refine aU ?_;exact aa4 rfl ⟨A1, c1, rfl, H1, ex⟩
theorem Pb (B : Oa) (m d : Nat) (s : ByteArray) (cs : Lb) (w : aa9) (HB : Bs w B m cs) (hs : s.size ≤ 1048576) (hm : m ≤ 1048576) :
  Ct 86 #[.string s, .slice B m d] w fun e w' => ∃ A' c', e = .returned (.slice A' 32 c') ∧ Bn w.heap.size w' A' 32 (Sha.sum (Wire.vec s.data.toList ++ Wire.vec cs)) ∧ Ext w w' := by
 have E := Ext.refl w;have YU := Wire.bH s.size; have YV := Wire.bH m;refine ai 12 func86 ?_;intro _ aa4;refine aU ?_;refine af (oJ rfl Tn.u Tn.u Tn.u) rfl ?_;rintro _ _ ⟨_, c2, rfl, H2, _, ex⟩;obtain ⟨HB,E⟩ := aS ex HB E;refine aB func162 rfl (dS none _ 0 0 _ c2 [] _ _ (Bs.nil _ _) Om H2 Om) ?_;rintro e _ ⟨A3, k3, c3, rfl, R3, _, ex⟩;obtain ⟨HB,E⟩ := aS ex HB E;have H3 := R3.bs;refine aU ?_;refine aB func162 rfl (dS A3 B k3 c3 m d _ cs _ H3 Om HB Om) ?_;rintro e _ ⟨_, _, _, rfl, R4, _, ex⟩;refine aU ?_;replace E := E.ext ex;have H4 := R4.bs;refine af (aF (z := .slice none 0 0) Tn.u Kr rfl rfl rfl rfl rfl) rfl ?_;rintro _ _ ⟨_, rfl, B5, _, ex⟩;obtain ⟨E,H4⟩ := aS ex E H4;have S5 := nE B5 H4;have YW := E.size;refine aB func161 rfl (wP _ 1 1 _ _ S5 Om (by simp only [List.flatten_cons, List.flatten_nil, List.append_nil]; rw [H4.1]; omega)) ?_;rintro e _ ⟨_, rfl, _, B6, ex⟩;replace E := E.ext ex;have H6 := aX B6 (Sha.bT _);refine aU ?_;exact aa4 rfl ⟨_, _, rfl, ⟨by simpa using H6, Nw.of B6 Om⟩, E⟩
theorem pR (A B : Oa) (n c m d k : Nat) (s : ByteArray) (ks cs : Lb) (w : aa9) (HA : Bs w A n ks) (hn : n ≤ 35184372088832) (hs : s.size ≤ 1048576) (HB : Bs w B m cs) (hm : m ≤ 1048576) (hk : k ≤ 8160) :
  Ct 47 #[.slice A n c, .string s, .slice B m d, .int .i64 (k : Int)] w fun e w' => ∃ A' c', e = .returned (.slice A' k c') ∧ Bs w' A' k (Kdf.label ks s.data.toList cs k) ∧ Ext w w' := by
 have E := Ext.refl w;have Y0 := Wire.bH (8 + s.size); have Y2 := Wire.bH m;have hcs : (⟨#[77, 76, 83, 32, 49, 46, 48, 32]⟩ : ByteArray).size = 8 := rfl;refine ai 26 func47 ?_;intro _ aa4;have YU := HA; have YV := HB;refine aU ?_;refine aB func56 rfl (kY 2 k _ Om Om) ?_;rintro e _ ⟨_, _, rfl, R1, ex⟩;replace E := E.ext ex;refine au 8 ?_;refine ak (tp rfl rfl Om) ?_;refine af (oJ rfl Tn.u Tn.u Tn.u) rfl ?_;rintro _ _ ⟨_, c2, rfl, H2, _, ex⟩;obtain ⟨E,R1⟩ := aS ex E R1;rw [xF, eC] at H2;refine aB func54 rfl (iq _ _ c2 _ _ (by rw [eC]; exact H2) (by rw [eC]; omega)) ?_;rintro e _ ⟨_, _, _, rfl, R3, YW, ex⟩;refine aU ?_;obtain ⟨E,R1⟩ := aS ex E R1;have H3 := R3.bs; have YX := E.size; rw [eC] at YW;refine af (aT rfl rfl bV R1 H3.2 (by rw [List.length_map, H3.1]) aJ Om Om YX) rfl ?_;rintro _ _ ⟨_, _, rfl, R4, be, gr, hl⟩;have E4 := E.trans be; have R5 := R4.cat;refine aU ?_;refine aB func54 rfl (iq B m d cs _ (YV.wk E4) Om) ?_;rintro e _ ⟨_, _, _, rfl, R6, _, ex⟩;refine aU ?_;have R7 := R5.ext ex; have H6 := R6.bs; have E5 := E4.ext ex; have YY := E5.size;refine af (aT rfl rfl bV R7 H6.2 (by rw [List.length_map, H6.1]) aJ Om Om YY) rfl ?_;rintro _ _ ⟨A8, c8, rfl, R8, be, gr, hl⟩;have E6 := E5.trans be; have H9 := R8.cat.bs;refine aU ?_;refine aB func116 rfl (nZ A A8 n c _ c8 k ks _ _ (YU.wk E6) hn H9 Om hk) ?_;rintro e _ ⟨A9, c9, rfl, YZ, ex⟩;have E7 := E6.ext ex;refine aU ?_;exact aa4 rfl ⟨A9, c9, rfl, YZ, E7⟩
structure Ctx where
 grp : List UInt8
 ep : Nat
 tree : List UInt8
 trans : List UInt8
def cy (c : Ctx) : List UInt8 := Wire.be 2 1 ++ Wire.be 2 1 ++ Wire.vec c.grp ++ Wire.be 8 c.ep ++ Wire.vec c.tree ++ Wire.vec c.trans ++ [0]
def Iw (A1 A2 A3 : Oa) (n1 c1 n2 c2 n3 c3 e : Nat) : Array Value := #[.slice A1 n1 c1, .int .u64 (e : Int), .slice A2 n2 c2, .slice A3 n3 c3]
def gU (w : aa9) (cs : Array Value) (c : Ctx) : Prop := ∃ A1 A2 A3 n1 c1 n2 c2 n3 c3, cs = Iw A1 A2 A3 n1 c1 n2 c2 n3 c3 c.ep ∧ Bs w A1 n1 c.grp ∧ Bs w A2 n2 c.tree ∧ Bs w A3 n3 c.trans
theorem gU.ext {c : Ctx} (h : gU w cs c) (k : Ext w w') : gU w' cs c := by obtain ⟨A1, A2, A3, n1, c1, n2, c2, n3, c3, h0, h1, h2, h3⟩ := h;exact ⟨A1, A2, A3, n1, c1, n2, c2, n3, c3, h0, h1.ext k, h2.ext k, h3.ext k⟩
theorem gU.size {c : Ctx} (h : gU w cs c) : cs.size = 4 := by obtain ⟨A1, A2, A3, n1, c1, n2, c2, n3, c3, rfl, _⟩ := h; rfl
def Ctx.Small (c : Ctx) : Prop := c.grp.length ≤ 200 ∧ c.tree.length ≤ 200 ∧ c.trans.length ≤ 200 ∧ c.ep < 18446744073709551616
theorem lS {c : Ctx} (h : c.Small) : (cy c).length ≤ 700 := by obtain ⟨h1, h2, h3, h4⟩ := h;have := Wire.bH c.grp.length; have := Wire.bH c.tree.length; have := Wire.bH c.trans.length;unfold cy;simp only [List.length_append, Wire.ji, Wire.jr, List.length_cons, List.length_nil];omega
theorem jE (A : Oa) (n c s x : Nat) (xs : Lb) (w : aa9) (HA : Bs w A n xs) (hn : n ≤ 70368744177664) (hs : s = 1 ∨ s = 2 ∨ s = 4 ∨ s = 8) (hx : x < 18446744073709551616) :
  Ct 163 #[.slice A n c, .int .i64 (s : Int), .int .u64 (x : Int)] w fun e w' => ∃ A' c', e = .returned (.slice A' (n + s) c') ∧ Row w' w.heap.size 5 A' (n + s) c' ((xs ++ Wire.be s x).map bv) ∧ Ext w w' := by
 refine ai 11 func163 ?_;intro _ aa4;refine aU ?_;refine aB func131 rfl (ij A n c s x xs _ HA hn hs hx) ?_;rintro e _ ⟨A1, c1, rfl, R1, ex⟩;refine aU ?_;exact aa4 rfl ⟨A1, c1, rfl, R1, ex⟩
theorem dy (A B : Oa) (n c m d : Nat) (xs ys : Lb) (w : aa9) (HA : Bs w A n xs) (hn : n ≤ 35184372088832) (HB : Bs w B m ys) (hm : m < 1073741824) :
  Ct 87 #[.slice A n c, .slice B m d] w fun e w' => ∃ A' k c', e = .returned (.slice A' k c') ∧ Row w' w.heap.size 5 A' k c' ((xs ++ Wire.vec ys).map bv) ∧ k = n + (Wire.jL m + m) ∧ Ext w w' := by
 refine ai 8 func87 ?_;intro _ aa4;refine aU ?_;refine aB func162 rfl (dS A B n c m d xs ys _ HA hn HB hm) ?_;rintro e _ ⟨A1, k1, c1, rfl, R1, hk, ex⟩;refine aU ?_;exact aa4 rfl ⟨A1, k1, c1, rfl, R1, hk, ex⟩
theorem ik (A B : Oa) (n c m d : Nat) (xs ys : Lb) (w : aa9) (HA : Bs w A n xs) (hn : n ≤ 35184372088832) (HB : Bs w B m ys) (hm : m ≤ 35184372088832) :
  Ct 80 #[.slice A n c, .slice B m d] w fun e w' => ∃ A' c', e = .returned (.slice A' (n + m) c') ∧ Row w' w.heap.size 5 A' (n + m) c' ((xs ++ ys).map bv) ∧ Ext w w' := by
 refine ai 10 func80 ?_;intro _ aa4;refine aU ?_;refine af (aF (z := .int .u8 0) Tn.u Kr rfl rfl rfl rfl rfl) rfl ?_;rintro _ w1 ⟨g1, rfl, B1, YU, ex⟩;have E1 := ex; have R1 : Row w1 w.heap.size 5 (cf g1) 0 0 [] := Row.new B1 YU rfl (by unfold maxLen; omega);refine aU ?_;refine af (iA rfl rfl bV R1 (HA.ext E1).2 (by rw [List.length_map, HA.1]) aJ Om Om E1.size) rfl ?_;rintro _ _ ⟨_, _, rfl, R2, be, gr, hl⟩;have E2 := E1.trans be;refine aU ?_;refine af (aT rfl rfl bV R2 (HB.ext E2).2 (by rw [List.length_map, HB.1]) aJ Om Om E2.size) rfl ?_;rintro _ _ ⟨A3, c3, rfl, R3, be, gr, hl⟩;have E3 := E2.trans be;refine aU ?_;exact aa4 rfl ⟨A3, c3, rfl, R3.cat, E3⟩
theorem mE (A B C : Oa) (n c m d k f : Nat) (xs ys zs : Lb) (w : aa9) (HA : Bs w A n xs) (hn : n ≤ 1000000) (HB : Bs w B m ys) (hm : m ≤ 1000000) (HC : Bs w C k zs) (hk : k ≤ 1000000) :
  Ct 122 #[.slice A n c, .slice B m d, .slice C k f] w fun e w' => ∃ A' c', e = .returned (.slice A' (n + m + k) c') ∧ Row w' w.heap.size 5 A' (n + m + k) c' ((xs ++ ys ++ zs).map bv) ∧ Ext w w' := by
 refine ai 12 func122 ?_;intro _ aa4;refine aU ?_;refine aB func80 rfl (ik A B n c m d xs ys _ HA Om HB Om) ?_;rintro e _ ⟨A1, c1, rfl, R1, ex⟩;replace HC := HC.ext ex;have E1 := ex;refine aU ?_;refine aB func80 rfl (ik A1 C _ c1 k f _ zs _ R1.bs Om HC Om) ?_;rintro e _ ⟨A2, c2, rfl, R2, ex⟩;have E2 := E1.ext ex;refine aU ?_;exact aa4 rfl ⟨A2, c2, rfl, R2.lower E1.size, E2⟩
theorem nt (x : Nat) (w : aa9) (hx : x < 18446744073709551616) :
  Ct 158 #[.int .u64 (x : Int)] w fun e w' => ∃ A' c', e = .returned (.slice A' 2 c') ∧ Row w' w.heap.size 5 A' 2 c' ((Wire.be 2 x).map bv) ∧ Ext w w' := by
 refine ai 5 func158 ?_;intro _ aa4;refine aU ?_;refine aB func56 rfl (kY 2 x _ Om hx) ?_;rintro e _ ⟨A1, c1, rfl, R1, ex⟩;refine aU ?_;exact aa4 rfl ⟨A1, c1, rfl, R1, ex⟩
theorem kP (B : Oa) (m d : Nat) (ys : Lb) (w : aa9) (HB : Bs w B m ys) (hm : m < 1073741824) :
  Ct 82 #[.slice B m d] w fun e w' => ∃ A' k c', e = .returned (.slice A' k c') ∧ Row w' w.heap.size 5 A' k c' ((Wire.vec ys).map bv) ∧ k = Wire.jL m + m ∧ Ext w w' := by
 refine ai 5 func82 ?_;intro _ aa4;refine aU ?_;refine aB func54 rfl (iq B m d ys _ HB hm) ?_;rintro e _ ⟨A1, k1, c1, rfl, R1, hk, ex⟩;refine aU ?_;exact aa4 rfl ⟨A1, k1, c1, rfl, R1, hk, ex⟩
theorem jV (cs : Array Value) (x : Ctx) (w : aa9) (H : gU w cs x) (hs : x.Small) :
  Ct 101 #[.agg cs] w fun e w' => ∃ A' k c', e = .returned (.slice A' k c') ∧ Row w' w.heap.size 5 A' k c' ((cy x).map bv) ∧ k ≤ 700 ∧ Ext w w' := by
 have hlen := lS hs;obtain ⟨A1, A2, A3, n1, c1, n2, c2, n3, c3, rfl, H1, H2, H3⟩ := H;obtain ⟨s1, s2, s3, s4⟩ := hs;have E := Ext.refl w;have Y2 := H1.1; have Y3 := H2.1; have Za := H3.1;have z1 := Wire.bH n1; have z2 := Wire.bH n2; have z3 := Wire.bH n3;refine ai 21 func101 ?_;intro _ aa4;refine aU ?_;intro w1 g1 (B1 : aq _ _ _ (Iw A1 A2 A3 n1 c1 n2 c2 n3 c3 x.ep)) Zb ex;obtain ⟨E,H1,H2,H3⟩ := bG ex E H1 H2 H3;refine aU ?_;refine aD Kr 9 rfl ?_; intro Zc ex Zd;obtain ⟨E,H1,H2,H3,B1⟩ := fR ex E H1 H2 H3 B1;refine zm [2, 3, 5, 6] ?_;refine bC 0 rfl func163 rfl (jE none 0 0 2 1 [] _ (Bs.nil _ _) Om Om Om) ?_;rintro e _ ⟨A4, c4, rfl, R4, ex⟩;obtain ⟨E,H1,H2,H3,B1⟩ := fR ex E H1 H2 H3 B1;refine aU ?_;refine bC 1 rfl func163 rfl (jE A4 _ c4 2 1 _ _ R4.bs Om Om Om) ?_;rintro e _ ⟨A5, c5, rfl, R5, ex⟩;obtain ⟨E,H1,H2,H3,B1⟩ := fR ex E H1 H2 H3 B1;refine aU ?_;refine bC 4 rfl func87 rfl (dy A5 A1 _ c5 n1 c1 _ _ _ R5.bs Om H1 Om) ?_;rintro e _ ⟨A6, k6, c6, rfl, R6, _, ex⟩;obtain ⟨E,H2,H3,B1⟩ := bG ex E H2 H3 B1;refine aU ?_;refine bC 7 rfl func163 rfl (jE A6 k6 c6 8 x.ep _ _ R6.bs Om Om Om) ?_;rintro e _ ⟨A7, c7, rfl, R7, ex⟩;obtain ⟨E,H2,H3,B1⟩ := bG ex E H2 H3 B1;refine zm [8] ?_;refine aD Kr 10 rfl ?_; intro Ze ex Zf;obtain ⟨E,H2,H3,B1,R7⟩ := fR ex E H2 H3 B1 R7;refine zm [0, 1, 2, 4, 5] ?_;refine mT 3 7 Kr ?_ ?_
 ·skip;refine jf rfl func87 rfl rfl rfl (dy A7 A2 _ c7 n2 c2 _ _ _ R7.bs Om H2 Om) rfl ?_;rintro e w6 ⟨A8, k8, c8, rfl, R8, Y0, ex⟩;obtain ⟨E,H3⟩ := aS ex E H3;refine aU ?_;refine mT 6 7 Kr ?_ ?_
  ·skip;have YV := E;refine jf rfl func87 rfl rfl rfl (dy A8 A3 k8 c8 n3 c3 _ _ _ R8.bs Om H3 Om) rfl ?_;rintro e w7 ⟨A9, k9, c9, rfl, R9, YY, ex⟩;refine aU ?_;replace E := E.ext ex;replace R9 := R9.lower YV.size;refine aR 7 Kr ?_; refine bE rfl (aF (z := .int .u8 0) Tn.u Kr rfl rfl rfl rfl rfl) rfl ?_;rintro _ w8 ⟨g8, rfl, D8, YZ, ex⟩;refine ⟨.inr ex, ?_⟩;obtain ⟨E,R9⟩ := aS ex E R9;refine aR 8 Kr ?_; refine bE rfl (aT rfl rfl bV R9 (At.fA (vs := [(0 : UInt8)].map bv) (D8.congr (by rfl))) rfl aJ Om Om E.size) rfl ?_;rintro _ w9 ⟨YW, c10, rfl, YX, be, gr, hl⟩;refine ⟨.inl rfl, ?_⟩;have E9 := E.trans be; have YU := YX.cat;refine zm [9] ?_;refine aa4 rfl ?_;have HF := YU.bs;have e : ([] ++ Wire.be 2 1 ++ Wire.be 2 1 ++ Wire.vec x.grp ++ Wire.be 8 x.ep ++ Wire.vec x.tree ++ Wire.vec x.trans ++ [0]) = cy x := by unfold cy; simp
   rw [e] at HF;have hf := HF.1;exact ⟨YW, _, c10, rfl, YU.congr rfl (by rw [e]), Om, E9⟩
  skip;refine bE rfl (aF (z := .int .u8 0) Tn.u Kr rfl rfl rfl rfl rfl) rfl ?_;rintro _ w8 ⟨g8, rfl, D8, YZ, ex⟩;refine ⟨.inr ex, ?_⟩;obtain ⟨E,H3,R8⟩ := bh ex E H3 R8;have YV := E;refine bC 6 rfl func87 rfl (dy A8 A3 k8 c8 n3 c3 _ _ _ R8.bs Om H3 Om) ?_;rintro e w7 ⟨A9, k9, c9, rfl, R9, YY, ex⟩;refine aU ?_;obtain ⟨E,D8⟩ := aS ex E D8;replace R9 := R9.lower YV.size;refine aR 8 Kr ?_; refine bE rfl (aT rfl rfl bV R9 (At.fA (vs := [(0 : UInt8)].map bv) (D8.congr (by rfl))) rfl aJ Om Om E.size) rfl ?_;rintro _ w9 ⟨YW, c10, rfl, YX, be, gr, hl⟩;refine ⟨.inl rfl, ?_⟩;have E9 := E.trans be; have YU := YX.cat;refine zm [9] ?_;refine aa4 rfl ?_;have HF := YU.bs;have e : ([] ++ Wire.be 2 1 ++ Wire.be 2 1 ++ Wire.vec x.grp ++ Wire.be 8 x.ep ++ Wire.vec x.tree ++ Wire.vec x.trans ++ [0]) = cy x := by unfold cy; simp
  rw [e] at HF;have hf := HF.1;exact ⟨YW, _, c10, rfl, YU.congr rfl (by rw [e]), Om, E9⟩
 skip;refine bE rfl (aF (z := .int .u8 0) Tn.u Kr rfl rfl rfl rfl rfl) rfl ?_;rintro _ w8 ⟨g8, rfl, D8, YZ, ex⟩;refine ⟨.inr ex, ?_⟩;obtain ⟨E,H2,H3,R7⟩ := bG ex E H2 H3 R7;refine bC 3 rfl func87 rfl (dy A7 A2 _ c7 n2 c2 _ _ _ R7.bs Om H2 Om) ?_;rintro e w6 ⟨A8, k8, c8, rfl, R8, Y0, ex⟩;obtain ⟨E,H3,D8⟩ := bh ex E H3 D8;refine aU ?_;have YV := E;refine bC 6 rfl func87 rfl (dy A8 A3 k8 c8 n3 c3 _ _ _ R8.bs Om H3 Om) ?_;rintro e w7 ⟨A9, k9, c9, rfl, R9, YY, ex⟩;refine aU ?_;obtain ⟨E,D8⟩ := aS ex E D8;replace R9 := R9.lower YV.size;refine aR 8 Kr ?_; refine bE rfl (aT rfl rfl bV R9 (At.fA (vs := [(0 : UInt8)].map bv) (D8.congr (by rfl))) rfl aJ Om Om E.size) rfl ?_;rintro _ w9 ⟨YW, c10, rfl, YX, be, gr, hl⟩;refine ⟨.inl rfl, ?_⟩;have E9 := E.trans be; have YU := YX.cat;refine zm [9] ?_;refine aa4 rfl ?_;have HF := YU.bs;have e : ([] ++ Wire.be 2 1 ++ Wire.be 2 1 ++ Wire.vec x.grp ++ Wire.be 8 x.ep ++ Wire.vec x.tree ++ Wire.vec x.trans ++ [0]) = cy x := by unfold cy; simp
 rw [e] at HF;have hf := HF.1;exact ⟨YW, _, c10, rfl, YU.congr rfl (by rw [e]), Om, E9⟩
theorem xv (cs : Array Value) (x : Ctx) (w : aa9) (H : gU w cs x) (hs : x.Small) :
  Ct 101 #[.agg cs] w fun e w' => ∃ A' k c', e = .returned (.slice A' k c') ∧ Bs w' A' k (cy x) ∧ k ≤ 700 ∧ Ext w w' :=
 (jV cs x w H hs).mono fun _ _ ⟨A', k, c', h1, h2, h3, h4⟩ => ⟨A', k, c', h1, h2.bs, h3, h4⟩
theorem uU (cs : Array Value) (x : Ctx) (w : aa9) (H : gU w cs x) (hs : x.Small) :
  Ct 119 #[.agg cs] w fun e w' => ∃ A' k c', e = .returned (.slice A' k c') ∧ Row w' w.heap.size 5 A' k c' ((cy x).map bv) ∧ k ≤ 700 ∧ Ext w w' := by
 have hlen := lS hs;obtain ⟨A1, A2, A3, n1, c1, n2, c2, n3, c3, rfl, H1, H2, H3⟩ := H;obtain ⟨s1, s2, s3, s4⟩ := hs;have E := Ext.refl w;have Zh := H1.1; have Zi := H2.1; have Zj := H3.1;have z1 := Wire.bH n1; have z2 := Wire.bH n2; have z3 := Wire.bH n3;refine ai 22 func119 ?_;intro _ aa4;refine aU ?_;intro w1 g1 (B1 : aq _ _ _ (Iw A1 A2 A3 n1 c1 n2 c2 n3 c3 x.ep)) Zk ex;obtain ⟨E,H1,H2,H3⟩ := bG ex E H1 H2 H3;refine aU ?_;refine dA Kr 20 rfl ?_; intro YY ex Zl;obtain ⟨E,H1,H2,H3,B1⟩ := fR ex E H1 H2 H3 B1;have YZ := B1;have X0 := Ext.refl YY;refine zm [2, 3, 6, 7, 10, 11, 13, 14] ?_;refine dx (fl := [XX 16 19 5 1 ([.int .u8 0])]) rfl ?_;refine j9 0 (some 3) func158 ?_;intro _ ex exb;obtain ⟨E,H1,H2,H3,X0⟩ := fR ex E H1 H2 H3 X0;refine ⟨_, (nt 1 _ Om), ?_⟩;rintro e _ ⟨A4, c4, rfl, R4, ex⟩;refine ⟨_, rfl, ex, ?_⟩;obtain ⟨E,H1,H2,H3,X0⟩ := fR ex E H1 H2 H3 X0;refine j9 1 (some 4) func158 ?_;intro _ ex exb;obtain ⟨E,H1,H2,H3,X0,R4⟩ := iz ex E H1 H2 H3 X0 R4;refine ⟨_, (nt 1 _ Om), ?_⟩;rintro e _ ⟨A5, c5, rfl, R5, ex⟩;refine ⟨_, rfl, ex, ?_⟩;obtain ⟨E,H1,H2,H3,X0,R4⟩ := iz ex E H1 H2 H3 X0 R4;refine j9 4 (some 7) func82 ?_;intro _ ex exb;obtain ⟨E,H1,H2,H3,X0,R4,R5⟩ := iW ex E H1 H2 H3 X0 R4 R5;refine ⟨_, (kP A1 n1 c1 _ _ H1 Om), ?_⟩;rintro e _ ⟨A6, k6, c6, rfl, R6, _, ex⟩;refine ⟨_, rfl, ex, ?_⟩;obtain ⟨E,H2,H3,X0,R4,R5⟩ := iz ex E H2 H3 X0 R4 R5;refine j9 5 (some 8) func122 ?_;intro _ ex exb;obtain ⟨E,H2,H3,X0,R4,R5,R6⟩ := iW ex E H2 H3 X0 R4 R5 R6;refine ⟨_, (mE A4 A5 A6 2 c4 2 c5 k6 c6 _ _ _ _ R4.bs Om R5.bs Om R6.bs Om), ?_⟩;rintro e _ ⟨A7, c7, rfl, R7, ex⟩;refine ⟨_, rfl, ex, ?_⟩;obtain ⟨E,H2,H3,X0⟩ := bG ex E H2 H3 X0;refine j9 8 (some 11) func56 ?_;intro _ ex exb;obtain ⟨E,H2,H3,X0,R7⟩ := fR ex E H2 H3 X0 R7;refine ⟨_, (kY 8 x.ep _ Om Om), ?_⟩;rintro e _ ⟨A8, c8, rfl, R8, ex⟩;refine ⟨_, rfl, ex, ?_⟩;obtain ⟨E,H2,H3,X0,R7⟩ := fR ex E H2 H3 X0 R7;refine j9 9 (some 12) func80 ?_;intro _ ex exb;obtain ⟨E,H2,H3,X0,R7,R8⟩ := iz ex E H2 H3 X0 R7 R8;refine ⟨_, (ik A7 A8 _ c7 8 c8 _ _ _ R7.bs Om R8.bs Om), ?_⟩;rintro e _ ⟨A9, c9, rfl, R9, ex⟩;refine ⟨_, rfl, ex, ?_⟩;obtain ⟨E,H2,H3,X0⟩ := bG ex E H2 H3 X0;refine j9 12 (some 15) func82 ?_;intro _ ex exb;obtain ⟨E,H2,H3,X0,R9⟩ := fR ex E H2 H3 X0 R9;refine ⟨_, (kP A2 n2 c2 _ _ H2 Om), ?_⟩;rintro e _ ⟨Y0, Y2, c10, rfl, YU, _, ex⟩;refine ⟨_, rfl, ex, ?_⟩;obtain ⟨E,H3,X0,R9⟩ := bG ex E H3 X0 R9;refine j9 15 (some 18) func82 ?_;intro _ ex exb;obtain ⟨E,H3,X0,R9,YU⟩ := fR ex E H3 X0 R9 YU;refine ⟨_, (kP A3 n3 c3 _ _ H3 Om), ?_⟩;rintro e _ ⟨Y3, Za, c11, rfl, YW, _, ex⟩;refine ⟨_, rfl, ex, ?_⟩;obtain ⟨E,X0,R9,YU⟩ := bG ex E X0 R9 YU;refine gR ⟨(aN (Au rfl underlying23 (z := .int .u8 0) Kr rfl rfl rfl rfl rfl) av), aa2 rfl, aa2 rfl, (aN (⟨rfl, aa2 rfl⟩) av), (aN (aQ Kr) av)⟩ Kr ?_;rintro _ _ ex ⟨⟨_, rfl, YX⟩, _⟩;obtain ⟨E,X0,R9,YU,YW⟩ := fR ex E X0 R9 YU YW;refine cY 17 Kr ?_;refine Ft rfl func122 rfl rfl rfl (mE Y0 Y3 _ Y2 c10 Za c11 1 1 _ _ _ _ YU.bs Om YW.bs Om (aX (xs := [(0 : UInt8)]) (YX.congr (by rfl)) rfl) Om) rfl ?_;rintro e _ ⟨Zb, Zc, rfl, Zd, ex⟩;refine ⟨_, rfl, X0.ext ex, ?_⟩;obtain ⟨E,X0,R9⟩ := bh ex E X0 R9;have Ze := E;refine cY 18 Kr ?_;refine Ft rfl func80 rfl rfl rfl (ik A9 Zb _ c9 _ Zc _ _ _ R9.bs Om Zd.bs Om) rfl ?_;rintro e _ ⟨Zf, Zg, rfl, YV, ex⟩;refine ⟨_, rfl, X0.ext ex, ?_⟩;replace E := E.ext ex;replace YV := YV.lower Ze.size;refine zm [19] ?_;refine dM Kr ?_;refine aU ?_;refine aa4 rfl ?_;have e : ((Wire.be 2 1 ++ Wire.be 2 1 ++ Wire.vec x.grp) ++ Wire.be 8 x.ep ++ (Wire.vec x.tree ++ Wire.vec x.trans ++ [0])) = cy x := by unfold cy; simp
 rw [e] at YV;have hf := YV.bs.1;exact ⟨Zf, _, Zg, rfl, YV, Om, E⟩
section
open Go.ChangeShapes Go.WideShapes Go.ChangeAt
section
variable {H : Type} {enc : TypeId × Value → H} {held : Bool}
theorem JT {v : Value} {d : DataW H} {p : List MemPlace} (h : DataW.Trod enc Tryz.prog W base spare held 40 v d p) :
  ∃ cs x, v = .agg cs ∧ gU W cs x ∧ x.ep < 18446744073709551616 ∧ x.grp.length ≤ maxLen ∧ x.tree.length ≤ maxLen ∧ x.trans.length ≤ maxLen := by
 obtain ⟨fuel, hf⟩ := h;obtain ⟨YU, hl, hfs⟩ := trod_struct Tryz.underlying40 hf;have hc : Tryz.prog.cellsOf 40 = 4 := by kernel_rfl
 rw [hc] at hl;have c1 : Tryz.prog.cellsOf 23 = 1 := by kernel_rfl
 have c2 : Tryz.prog.cellsOf 38 = 1 := by kernel_rfl
 obtain ⟨y0, h0⟩ := hfs 0 _ rfl;obtain ⟨y1, h1⟩ := hfs 1 _ rfl;obtain ⟨y2, h2⟩ := hfs 2 _ rfl;obtain ⟨y3, h3⟩ := hfs 3 _ rfl;obtain ⟨A0, n0, k0, g, e0, b0, m0⟩ := ox h0;obtain ⟨N, e1, m1⟩ := NZ h1;obtain ⟨A2, n2, k2, tr, e2, b2, m2⟩ := ox h2;obtain ⟨A3, n3, k3, ts, e3, b3, m3⟩ := ox h3;have q0 := GI (i := 0) c1 e0;have q1 := GI (i := 1) c2 e1;have q2 := GI (i := 2) c1 e2;have q3 := GI (i := 3) c1 e3
 have hcs : v.cells.toList = [.slice A0 n0 k0, .int .u64 (N : Int), .slice A2 n2 k2, .slice A3 n3 k3] := by
  apply List.ext_getElem?;intro i
  match i with
  | 0 => exact q0
  | 1 => exact q1
  | 2 => exact q2
  | 3 => exact q3
  | i + 4 => rw [List.getElem?_eq_none Om]; simp
 refine ⟨_, ⟨g, N, tr, ts⟩, SZ hcs (by simp), ⟨A0, A2, A3, n0, k0, n2, k2, n3, k3, rfl, b0, b2, b3⟩, m1, ?_, ?_, ?_⟩
 ·show g.length ≤ _; rw [b0.1]; exact m0
 ·show tr.length ≤ _; rw [b2.1]; exact m2
 show ts.length ≤ _; rw [b3.1]; exact m3
end
variable {H : Type} {enc : TypeId × Value → H} {held : Bool}
theorem rC {α : Type} {Q : Nat → α → Prop} : ∀ n, (∀ i, i < n → ∃ x, Q i x) → ∃ l : List α, l.length = n ∧ ∀ i (h : i < l.length), Q i l[i]
  | 0, _ => ⟨[], rfl, fun i h => by simp at h⟩
  | n + 1, h => by
    obtain ⟨l, hl, hq⟩ := rC n (fun i hi => h i Om);obtain ⟨x, hx⟩ := h n Om;refine ⟨l ++ [x], by simp [hl], fun i hi => ?_⟩;by_cases hin : i < l.length
    · rw [List.getElem_append_left hin]; exact hq i hin
    have : i = l.length := by simp at hi; omega
    subst this;simp only [List.getElem_concat_length];rw [hl]; exact hx
end
section
namespace Wire
def nb (xs : Lb) : Nat := xs.foldl (fun a x => a * 256 + x.toNat) 0
theorem PY (xs : Lb) (x : UInt8) : nb (xs ++ [x]) = nb xs * 256 + x.toNat := by simp [nb]
theorem sG : ∀ (xs : Lb) (a : Nat), xs.foldl (fun a x => a * 256 + x.toNat) a = a * 256 ^ xs.length + nb xs
  | [], a => by simp [nb]
  | x :: xs, a => by have h1 := sG xs (a * 256 + x.toNat);have h2 := sG xs (0 * 256 + x.toNat);unfold nb;rw [List.foldl_cons, List.foldl_cons, h1, h2, List.length_cons, Nat.pow_succ];grind
theorem FK (x : UInt8) (xs : Lb) : nb (x :: xs) = x.toNat * 256 ^ xs.length + nb xs := by have h := sG xs (0 * 256 + x.toNat);rw [show (0 * 256 + x.toNat) * 256 ^ xs.length = x.toNat * 256 ^ xs.length by rw [Nat.zero_mul, Nat.zero_add]] at h;exact h
theorem GA : ∀ xs : List UInt8, nb xs < 256 ^ xs.length
  | [] => by simp [nb]
  | x :: xs => by have ih := GA xs;have hx := UInt8.toNat_lt x;rw [FK, List.length_cons, Nat.pow_succ];have : x.toNat * 256 ^ xs.length ≤ 255 * 256 ^ xs.length := Nat.mul_le_mul_right _ Om;omega
theorem xB (h : k < xs.length) : nb (xs.take (k + 1)) = nb (xs.take k) * 256 + (xs.getD k 0).toNat := by rw [List.take_succ_eq_append_getElem h, PY];simp [h]
abbrev St := Except Nat (List UInt8)
def bX : St → Nat
 | .ok _ => 0
 | .error c => c
def tk (xs : Lb) (e : Nat) (z : Int) : List UInt8 × Bool × List UInt8 × Nat :=
 if e ≠ 0 then ([], false, xs, e) else if z < 0 then ([], false, xs, 1) else if (xs.length : Int) < z then ([], false, xs, 4) else (xs.take z.toNat, true, xs.drop z.toNat, 0)
def se : List UInt8 → Except Nat (Nat × List UInt8)
  | [] => .error 4
  | b :: r =>
    if 192 ≤ b.toNat then .error 3
    else
      let s := if b.toNat < 64 then 1 else if b.toNat < 128 then 2 else 4
      if r.length < s - 1 then .error 4
      else
        let n := nb (UInt8.ofNat (b.toNat % 64) :: r.take (s - 1))
        if jL n = s then .ok (n, r.drop (s - 1)) else .error 3
def AU (xs : Lb) : Except Nat (List UInt8 × List UInt8) :=
 match se xs with
 | .error c => .error c
 | .ok (n, r) => if r.length < n then .error 4 else .ok (r.take n, r.drop n)
def Uh (k : Nat) (xs : Lb) : Except Nat (Nat × List UInt8) := if xs.length < k then .error 4 else .ok (nb (xs.take k), xs.drop k)
def qV : St → (Nat × Bool) × St
  | .error c => ((0, false), .error c)
  | .ok xs => match se xs with
    | .error c => ((0, false), .error c)
    | .ok (n, r) => ((n, true), .ok r)
def iE : St → List UInt8 × St
  | .error c => ([], .error c)
  | .ok xs => match AU xs with
    | .error c => ([], .error c)
    | .ok (v, r) => (v, .ok r)
def iR (k : Nat) : St → Nat × St
  | .error c => (0, .error c)
  | .ok xs => match Uh k xs with
    | .error c => (0, .error c)
    | .ok (v, r) => (v, .ok r)
theorem sE (k : Nat) (xs : Lb) : iR k (.ok xs) = if xs.length < k then (0, .error 4) else (nb (xs.take k), .ok (xs.drop k)) := by
 show (match Uh k xs with
  | .error c => ((0, .error c) : Nat × St)
  | .ok (v, r) => (v, .ok r)) = _
 unfold Uh;grind
def jv : St → Nat
 | .error c => c
 | .ok [] => 0
 | .ok (_ :: _) => 5
end Wire
open Wire
def Tq (A : Oa) (n c e : Nat) : Array Value := #[.slice A n c, .int .u8 (e : Int)]
def Rd (N : Nat) (S : List Nat) (w : aa9) (g : Nat) (xs : Lb) (e : Nat) : Prop := ∃ A n c, aq w g 263 (Tq A n c e) ∧ n ≤ c ∧ g ∈ S ∧ Kp N S (fun w => Bs w A n xs) w
def Rs (N : Nat) (S : List Nat) (w : aa9) (g : Nat) : St → Prop
 | .ok xs => Rd N S w g xs 0
 | .error c => c ≠ 0 ∧ c < 256 ∧ ∃ xs, Rd N S w g xs c
section
variable {e : Nat} {s : St}
theorem Rd.lt (h : Rd N S w g xs e) : g < w.heap.size := by obtain ⟨A, n, c, B, _⟩ := h; exact B.lt
theorem Rd.mem (h : Rd N S w g xs e) : g ∈ S := by obtain ⟨A, n, c, _, _, m, _⟩ := h; exact m
theorem Rd.ext (h : Rd N S w g xs e) (E : Ext w w') : Rd N S w' g xs e := by obtain ⟨A, n, c, B, hc, m, K⟩ := h; exact ⟨A, n, c, B.ext E, hc, m, K.ext E⟩
theorem Rd.grow (h : Rd N S w g xs e) (E : Ext w w') (hk : w.heap.size ≤ k) : Rd N (k :: S) w' g xs e := by obtain ⟨A, n, c, B, hc, m, K⟩ := h; exact ⟨A, n, c, B.ext E, hc, List.mem_cons_of_mem _ m, K.grow E hk⟩
theorem Rd.bD (h : Rd N S w g xs e) (C : aI S' w w') (hs : ∀ k ∈ S', k ∈ S := by first | (simp; done) | (simp; assumption)) (hg : g ∉ S' := by first | (simp; done) | (simp; omega)) : Rd N S w' g xs e := by obtain ⟨A, n, c, B, hc, m, K⟩ := h; exact ⟨A, n, c, B.bD C hg, hc, m, K.bD C hs⟩
theorem Rd.mono (h : Rd N S w g xs e) (hs : ∀ k ∈ S', k ∈ S) (hg : g ∈ S') : Rd N S' w g xs e := by obtain ⟨A, n, c, B, hc, m, K⟩ := h; exact ⟨A, n, c, B, hc, hg, K.mono hs⟩
theorem Rs.ext (h : Rs N S w g s) (E : Ext w w') : Rs N S w' g s := by
 cases s with
 | ok xs => exact Rd.ext h E
 | error c => obtain ⟨h1, h2, xs, h⟩ := h; exact ⟨h1, h2, xs, h.ext E⟩
theorem Rs.grow (h : Rs N S w g s) (E : Ext w w') (hk : w.heap.size ≤ k) : Rs N (k :: S) w' g s := by
 cases s with
 | ok xs => exact Rd.grow h E hk
 | error c => obtain ⟨h1, h2, xs, h⟩ := h; exact ⟨h1, h2, xs, h.grow E hk⟩
theorem Rs.bD (h : Rs N S w g s) (C : aI S' w w') (hs : ∀ k ∈ S', k ∈ S := by first | (simp; done) | (simp; assumption)) (hg : g ∉ S' := by first | (simp; done) | (simp; omega)) : Rs N S w' g s := by
 cases s with
 | ok xs => exact Rd.bD h C hs hg
 | error c => obtain ⟨h1, h2, xs, h⟩ := h; exact ⟨h1, h2, xs, h.bD C hs hg⟩
theorem Rs.mono (h : Rs N S w g s) (hs : ∀ k ∈ S', k ∈ S) (hg : g ∈ S') : Rs N S' w g s := by
 cases s with
 | ok xs => exact Rd.mono h hs hg
 | error c => obtain ⟨h1, h2, xs, h⟩ := h; exact ⟨h1, h2, xs, h.mono hs hg⟩
theorem Rs.lt (h : Rs N S w g s) : g < w.heap.size := by
 cases s with
 | ok xs => exact Rd.lt h
 | error c => obtain ⟨h1, h2, xs, h⟩ := h; exact h.lt
theorem Rs.mem (h : Rs N S w g s) : g ∈ S := by
 cases s with
 | ok xs => exact Rd.mem h
 | error c => obtain ⟨h1, h2, xs, h⟩ := h; exact h.mem
theorem Rs.rd (h : Rs N S w g s) : ∃ xs, Rd N S w g xs (bX s) ∧ bX s < 256 ∧ (s = .ok xs ∨ (bX s ≠ 0 ∧ s = .error (bX s))) := by
 cases s with
 | ok xs => exact ⟨xs, h, by show 0 < 256; omega, .inl rfl⟩
 | error c => obtain ⟨h1, h2, xs, h⟩ := h; exact ⟨xs, h, h2, .inr ⟨h1, rfl⟩⟩
end
theorem Fb.kk (h : Fb base w A n xs) (hS : ∀ g ∈ S, g < base) : Kp w.heap.size S (fun w => Fb base w A n xs) w := (h.kp hS).map fun _ hb => ⟨hb, h.2⟩
theorem AW (A : Oa) (n c e : Nat) : (Tq A n c e).size = 2 := rfl
theorem Pd (A : Oa) (n c e e' : Nat) (hz : z = (e' : Int)) : (Tq A n c e).setIfInBounds 1 (.int .u8 z) = Tq A n c e' := by subst hz; rfl
theorem PW (A A' : Oa) (n c n' c' e : Nat) : (Tq A n c e).setIfInBounds 0 (.slice A' n' c') = Tq A' n' c' e := rfl
theorem va (A : Oa) (n c : Nat) (xs : Lb) (w : aa9) (hc : n ≤ c) (K : Kp N S (fun w => Bs w A n xs) w) :
  Ct 172 #[.slice A n c] w fun e w' => ∃ g, e = .returned (.pointer (cf g)) ∧ w.heap.size ≤ g ∧ Rs N (g :: S) w' g (.ok xs) ∧ Ext w w' := by
 refine ai 6 func172 ?_;intro _ aa4;refine au 8 ?_;refine ak (aA rfl (cells := Tq A n c 0) Kr) ?_;refine aU ?_;intro _ g1 B1 YU ex;refine aU ?_;exact aa4 rfl ⟨g1, rfl, YU, ⟨A, n, c, B1, hc, List.mem_cons_self, K.grow ex YU⟩, ex⟩
theorem kv (c : Nat) (z : Int) (hz : z = (c : Int)) (w : aa9) (H : Rd N S w g xs 0) :
  Ct 224 #[.pointer (cf g), .int .u8 z] w fun e w' => e = .returned (.tuple #[]) ∧ Rd N S w' g xs c ∧ aI [g] w w' := by
 obtain ⟨A, n, d, B, hd, m, K⟩ := H;refine eX 13 func224 ?_;intro _ aa4;refine au 15 ?_;refine af (az rfl rfl rfl Kr B (by rw [AW]; omega)) rfl ?_;rintro _ _ ⟨rfl, D, cg⟩;have ex := aI.one cg;rw [Pd A n d 0 c hz] at D; replace K := K.bD ex (by simpa using m);refine aU ?_;exact aa4 (.inr rfl) ⟨rfl, ⟨A, n, d, D, hd, m, K⟩, ex⟩
theorem kH {e : Nat} (z : Int) (w : aa9) (he : e < 256) (H : Rd N S w g xs e) :
  Ct 223 #[.pointer (cf g), .int .i64 z] w fun r w' => ∃ A n c, r = .returned (.tuple #[.slice A n c, .bool (tk xs e z).2.1]) ∧ n ≤ c ∧ Kp N S (fun w => Bs w A n (tk xs e z).1) w' ∧ Rd N S w' g (tk xs e z).2.2.1 (tk xs e z).2.2.2 ∧ aI [g] w w' := by
 have H0 := H;obtain ⟨A, n, d, B, hd, m, K⟩ := H;have hxl : xs.length = n := K.out.1;refine aZ 48 func223 ?_;intro _ aa4;refine au 11 ?_;refine ak (Y.as (LL rfl rfl Tn.u) (show Value.bool _ = .bool false from rfl)) ?_;refine au 5 ?_;refine bN 10 rfl rfl (kg rfl rfl) rfl (fun h1 => ?_) (fun h1 => ?_)
 ·refine au 4 ?_;refine bS rfl rfl ?_;refine aU ?_;refine aa4 rfl rfl ?_;have YU := K.1;have ht : tk xs e z = ([], false, xs, e) := by unfold tk; rw [if_pos Om]
  rw [ht];exact ⟨none, 0, 0, rfl, Nat.le_refl _, Kp.nil _ _ YU, H0, aI.refl _ _⟩
 refine au 4 ?_;refine bm rfl rfl ?_;obtain rfl : e = 0 := Om
 refine au 3 ?_;refine bL (fB rfl rfl) rfl (fun h2 => ?_) (fun h2 => ?_)
 ·refine au 3 ?_;refine bS rfl rfl ?_;refine aU ?_;refine aB func224 rfl (kv 1 1 rfl _ H0) ?_;rintro e w1 ⟨rfl, H1, ex⟩;refine aU ?_;refine aa4 rfl rfl ?_;have YU := Nat.le_trans K.1 ex.size;have ht : tk xs 0 z = ([], false, xs, 1) := by unfold tk; rw [if_neg Om, if_pos h2]
  rw [ht];exact ⟨none, 0, 0, rfl, Nat.le_refl _, Kp.nil _ _ YU, H1, ex⟩
 refine au 3 ?_;refine bm rfl rfl ?_;refine au 8 ?_;refine bL (vP rfl rfl) rfl (fun h3 => ?_) (fun h3 => ?_)
 ·refine au 3 ?_;refine bS rfl rfl ?_;refine aU ?_;refine aB func224 rfl (kv 4 4 rfl _ H0) ?_;rintro e w1 ⟨rfl, H1, ex⟩;refine aU ?_;refine aa4 rfl rfl ?_;have YU := Nat.le_trans K.1 ex.size;have ht : tk xs 0 z = ([], false, xs, 4) := by unfold tk; rw [if_neg Om, if_neg h2, if_pos Om]
  rw [ht];exact ⟨none, 0, 0, rfl, Nat.le_refl _, Kp.nil _ _ YU, H1, ex⟩
 refine au 3 ?_;refine bm rfl rfl ?_;obtain ⟨k, rfl⟩ : ∃ k : Nat, z = k := Int.eq_ofNat_of_zero_le Om;have hkn : k ≤ n := Om
 refine au 10 ?_;refine ak (j8 (s := 1) rfl rfl Tn.u Kr (j := k) rfl Om) ?_;refine au 11 ?_;refine ak (oI (s := 1) rfl rfl Tn.u Kr (j := k) rfl Om) ?_;refine au 2 ?_;refine af (az rfl rfl rfl Kr B (by rw [AW]; omega)) rfl ?_;rintro _ w1 ⟨rfl, D, cg⟩;have ex := aI.one cg;rw [PW] at D; replace K := K.bD ex (by simpa using m);refine aU ?_;refine aa4 rfl rfl ?_;have ht : tk xs 0 (k : Int) = (xs.take k, true, xs.drop k, 0) := by unfold tk; grind
 rw [ht];exact ⟨A, k, d, rfl, Om, K.map fun _ h => h.take hkn, ⟨_, _, _, D, Om, m, K.map fun _ h => h.lZ hkn hd⟩, ex⟩
theorem LK (h : q < 72057594037927936) : IntKind.u64.wrap ((q : Int) * 2 ^ min (8 : Int).toNat IntKind.u64.bits) = ((q * 256 : Nat) : Int) := by have e : min (8 : Int).toNat IntKind.u64.bits = 8 := rfl;rw [e];exact IntWalk.u64_in _ ⟨Om, Om⟩
theorem CX (h : x < 256) : (q * 256 ||| x) = q * 256 + x := by rw [Nat.mul_comm, show 256 = 2 ^ 8 from rfl, Nat.two_pow_add_eq_or_of_lt Om]
theorem uK (A : Oa) (n c : Nat) (xs : Lb) (w : aa9) (HA : Bs w A n xs) (hn : n ≤ 8) :
  Ct 229 #[.slice A n c] w (ck w (.int .u64 ((nb xs : Nat) : Int))) := by
 have hxl := HA.1;refine ai 19 func229 ?_;intro _ aa4;refine aU ?_;refine aE (fun n' L wr => ∃ (k : Nat), L = [(3, .int .u64 ((nb (xs.take k) : Nat) : Int)), (6, .slice A n c), (7, .int .i64 (n : Int)), (8, .int .i64 (k : Int))] ∧ n' = n - k ∧ (k ≤ n ∧ Ext w wr)) _ _ ⟨0, rfl, rfl, Om, Ext.refl _⟩ Ls ?_;rintro _ n' L wr ⟨k, rfl, rfl, _, E⟩ YU;refine aa1 (fun YV => ?_) (fun YV => ?_)
 ·have hkn : k < n := Om
  obtain ⟨b, off, rfl, _, hc⟩ := (HA.ext E).get hkn;have YW := UInt8.toNat_lt (xs.getD k 0);have hlt := GA (xs.take k);have hle : 256 ^ (xs.take k).length ≤ 256 ^ 7 := Nat.pow_le_pow_right Om (by grind);have YX : nb (xs.take k) < 72057594037927936 := Nat.lt_of_lt_of_le hlt hle;have hs := xB (xs := xs) (k := k) Om;refine au 7 ?_;refine ak (ah rfl Tn.u rfl hc) ?_;refine au 5 ?_;refine ak (fX rfl rfl Om (LK YX)) ?_;refine au 2 ?_;refine ak (jZ rfl rfl (by rw [(cz Om Om).2.1, CX YW])) ?_;refine au 8 ?_;refine ae ?_;refine YU _ _ ⟨k + 1, rfl, rfl, Om, E⟩ Om Ls
 refine aU ?_;refine aa4 rfl ?_;obtain rfl : k = n := Om
 rw [List.take_of_length_le Om];exact ⟨rfl, E⟩
theorem Lm {e : Nat} : (tk xs e (k : Int)).1.length ≤ k := by unfold tk;grind
theorem Tb {s : St} (k : Nat) (h : s = .ok xs ∨ (bX s ≠ 0 ∧ s = .error (bX s))) (he : bX s < 256) :
  nb (tk xs (bX s) (k : Int)).1 = (iR k s).1 ∧ ∀ N S w g, Rd N S w g (tk xs (bX s) (k : Int)).2.2.1 (tk xs (bX s) (k : Int)).2.2.2 → Rs N S w g (iR k s).2 := by
 rcases h with rfl | ⟨h0, h1⟩
 ·show nb (tk xs 0 (k : Int)).1 = _ ∧ ∀ N S w g, Rd N S w g (tk xs 0 (k : Int)).2.2.1 (tk xs 0 (k : Int)).2.2.2 → _;rw [sE];unfold tk;rw [if_neg Om, if_neg Om];by_cases hl : xs.length < k
  ·rw [if_pos Om, if_pos hl];exact ⟨rfl, fun N S w g h => ⟨Om, Om, _, h⟩⟩
  rw [if_neg Om, if_neg hl];exact ⟨rfl, fun N S w g h => h⟩
 generalize bX s = c at *
 subst h1;have ht : tk xs c (k : Int) = ([], false, xs, c) := by unfold tk; rw [if_pos h0]
 rw [ht];exact ⟨rfl, fun N S w g h => ⟨h0, he, _, h⟩⟩
theorem KP {s : St} (k : Nat) (z : Int) (hz : z = (k : Int)) (w : aa9) (hk : k = 1 ∨ k = 2 ∨ k = 4 ∨ k = 8) (H0 : Rs N S w g s) :
  Ct 182 #[.pointer (cf g), .int .i64 z] w fun e w' => e = .returned (.int .u64 (((iR k s).1 : Nat) : Int)) ∧ Rs N S w' g (iR k s).2 ∧ aI [g] w w' := by
 subst hz;obtain ⟨xs, H, he, hs⟩ := H0.rd;have YU : k ≤ 8 := Om
 have F := aI.refl [g] w;obtain ⟨q1, q2⟩ := Tb k hs he;refine ai 18 func182 ?_;intro _ aa4;refine au 9 ?_;refine aB func192 rfl (EN k _) ?_;rintro e _ ⟨rfl, ex⟩;refine au 1 ?_;obtain ⟨H,F⟩ := aS ex H F;rw [decide_eq_true hk];refine ak (pY rfl) ?_;refine au 2 ?_;refine bm rfl rfl ?_;refine au 6 ?_;refine aB func223 rfl (kH (k : Int) _ he H) ?_;rintro e _ ⟨A2, n2, c2, rfl, _, K2, H2, ex⟩;replace F := F.bD ex
 have YV : n2 ≤ k := (K2.out.1 ▸ Lm)
 refine au 11 ?_;refine aB func229 rfl (uK A2 n2 c2 _ _ K2.out Om) ?_;rintro e _ ⟨rfl, ex⟩;refine au 1 ?_;obtain ⟨F,H2⟩ := aS ex F H2;rw [q1];refine au 4 ?_;exact aa4 rfl ⟨rfl, q2 _ _ _ _ H2, F⟩
theorem Fm (k : Nat) (s : St) : (iR k s).1 < 256 ^ k := by
  have hp := Nat.pow_pos (n := k) (show 0 < 256 by omega)
  cases s with
  | error c => exact hp
  | ok xs =>
    rw [sE]
    split
    · exact hp
    have := GA (xs.take k)
    grind
theorem pt {s : St} (w : aa9) (H0 : Rs N S w g s) :
  Ct 170 #[.pointer (cf g)] w (ck w (.int .u8 ((bX s : Nat) : Int))) := by
 obtain ⟨xs, H, he, hs⟩ := H0.rd;obtain ⟨A, n, d, B, hd, m, K⟩ := H;refine ai 9 func170 ?_;intro _ aa4;refine au 9 ?_;refine ak (Y.as (LL rfl rfl Tn.u) (show Value.bool _ = .bool false from rfl)) ?_;refine au 2 ?_;refine bm rfl rfl ?_;refine aU ?_;exact aa4 rfl ⟨rfl, Ext.refl _⟩
theorem NJ {s : St} (w : aa9) (H : Rs N S w g s) :
  Ct 173 #[.pointer (cf g)] w (ck w (.int .u8 ((jv s : Nat) : Int))) := by
 have E := Ext.refl w;refine ai 15 func173 ?_;intro _ aa4;refine aU ?_;refine aB func170 rfl (pt _ H) ?_;rintro e _ ⟨rfl, ex⟩;obtain ⟨H,E⟩ := aS ex H E;refine aa1 (fun YU => ?_) (fun YU => ?_)
 ·have hs : jv s = bX s := by cases s with
   | ok xs => exact absurd rfl YU
   | error c => rfl
  refine aU ?_;exact aa4 rfl ⟨by rw [hs], E⟩
 obtain ⟨xs, rfl⟩ : ∃ xs, s = .ok xs := by
  cases s with
  | ok xs => grind
  | error c => exact absurd H.1 (fun h => h (by have h2 : ¬ ((c : Nat) : Int) ≠ 0 := YU; omega))
 obtain ⟨A, n, d, B, hd, m, K⟩ := H;have hl := K.out.1;refine aa1 (fun YV => ?_) (fun YV => ?_)
 ·refine aU ?_;refine aa4 rfl ?_
  exact ⟨by cases xs with
   | nil => grind
   | cons x xs => rfl, E⟩
 refine aU ?_;refine aa4 rfl ?_
 exact ⟨by cases xs with
  | nil => rfl
  | cons x xs => grind, E⟩
theorem GS {e : Nat} (z : Int) (w : aa9) (he : e < 256) (hz : z ≤ 35184372088832) (H : Rd N S w g xs e) :
  Ct 222 #[.pointer (cf g), .int .i64 z] w fun r w' => ∃ A n c, r = .returned (.slice A n c) ∧ n ≤ c ∧ Fb w.heap.size w' A n (tk xs e z).1 ∧ Rd N S w' g (tk xs e z).2.2.1 (tk xs e z).2.2.2 ∧ aI [g] w w' := by
 have F := aI.refl [g] w;refine ai 15 func222 ?_;intro _ aa4;refine aU ?_;refine aB func223 rfl (kH z _ he H) ?_;rintro e _ ⟨A1, n1, c1, rfl, _, K1, H1, ex⟩;replace F := F.bD ex;refine au 11 ?_
 have YV : n1 ≤ 35184372088832 := by
  have h := K1.out.1
  have : (tk xs e z).1.length ≤ z.toNat := by unfold tk;grind
  omega
 have YW := F.size;refine aB func100 rfl (yN A1 n1 c1 _ _ K1.out YV) ?_;rintro e _ ⟨A2, c2, rfl, YU, YX, YY, ex⟩;obtain ⟨F,H1⟩ := aS ex F H1;refine aU ?_;exact aa4 rfl ⟨A2, n1, c2, rfl, YU, ⟨YX, fun _ b o h => Nat.le_trans YW (YY b o h)⟩, H1, F⟩
end
open Wire
namespace Wire
theorem uH (xs : Lb) (k : Nat) (hz : z = (k : Int)) : tk xs 0 z = if xs.length < k then ([], false, xs, 4) else (xs.take k, true, xs.drop k, 0) := by subst hz;unfold tk;grind
theorem TL {s : St} (h : s = .ok xs ∨ (bX s ≠ 0 ∧ s = .error (bX s))) (he : bX s < 256) (hn : (tk xs (bX s) 1).2.1 = false) :
  ∃ c, qV s = ((0, false), .error c) ∧ (tk xs (bX s) 1).2.2.2 = c ∧ c ≠ 0 ∧ c < 256 := by
 rcases h with rfl | ⟨h0, h1⟩
 ·have e : tk xs (bX (.ok xs)) 1 = tk xs 0 1 := rfl;rw [e, uH xs 1 (z := 1) rfl] at hn ⊢
  cases xs with
  | nil => exact ⟨4, rfl, rfl, Om, Om⟩
  | cons b r => grind
 generalize bX s = c at *
 subst h1;exact ⟨c, rfl, by unfold tk; rw [if_pos h0], h0, he⟩
theorem Ey {s : St} (h : s = .ok xs ∨ (bX s ≠ 0 ∧ s = .error (bX s))) (hn : (tk xs (bX s) 1).2.1 = true) :
  ∃ b r, s = .ok (b :: r) ∧ tk xs (bX s) 1 = ([b], true, r, 0) := by
 rcases h with rfl | ⟨h0, h1⟩
 ·have e : tk xs (bX (.ok xs)) 1 = tk xs 0 1 := rfl;rw [e, uH xs 1 (z := 1) rfl] at hn ⊢
  cases xs with
  | nil => grind
  | cons b r => grind
 have : tk xs (bX s) 1 = ([], false, xs, bX s) := by unfold tk; rw [if_pos h0]
 grind
theorem vG (b : UInt8) (r : Lb) : se (b :: r) = if 192 ≤ b.toNat then .error 3 else
   let s := if b.toNat < 64 then 1 else if b.toNat < 128 then 2 else 4
   if r.length < s - 1 then .error 4
   else
    let n := nb (UInt8.ofNat (b.toNat % 64) :: r.take (s - 1))
    if jL n = s then .ok (n, r.drop (s - 1)) else .error 3 := rfl
theorem yZ (h : 192 ≤ b.toNat) : se (b :: r) = .error 3 := by rw [vG, if_pos h]
theorem qm (h : ¬ 192 ≤ b.toNat) (hs : s = 2 ^ (b.toNat / 64)) : se (b :: r) = if r.length < s - 1 then .error 4 else if jL (nb (UInt8.ofNat (b.toNat % 64) :: r.take (s - 1))) = s then .ok (nb (UInt8.ofNat (b.toNat % 64) :: r.take (s - 1)), r.drop (s - 1)) else .error 3 := by
 have e : (if b.toNat < 64 then 1 else if b.toNat < 128 then 2 else 4) = s := by
  rw [hs];by_cases h1 : b.toNat < 64
  ·rw [if_pos h1, show b.toNat / 64 = 0 by omega]
  rw [if_neg h1];by_cases h2 : b.toNat < 128
  ·rw [if_pos h2, show b.toNat / 64 = 1 by omega]
  rw [if_neg h2, show b.toNat / 64 = 2 by omega]
 rw [vG, if_neg h];simp only [e]
theorem nr (xs : Lb) : qV (.ok xs) = match se xs with
  | .error c => ((0, false), .error c)
  | .ok (n, r) => ((n, true), .ok r) := rfl
theorem Uo : ∀ x : Fin 256, bits .and .u8 ((x.val : Nat) : Int) 63 = ((x.val % 64 : Nat) : Int) := by decide +kernel
theorem vh (h : t.length ≤ 3) : nb (UInt8.ofNat (b.toNat % 64) :: t) < 1073741824 := by
 have hx : (UInt8.ofNat (b.toNat % 64)).toNat = b.toNat % 64 := by rw [UInt8.toNat_ofNat']; omega
 have hl := GA t;rw [FK, hx]
 match t, h with
 | [], _ => grind
 | [x], _ => grind
 | [x, y], _ => simp at hl ⊢; omega
 | [x, y, z], _ => simp at hl ⊢; omega
 | x :: y :: z :: u :: t, h => simp at h
end Wire
theorem AP {s : St} (w : aa9) (H0 : Rs N S w g s) :
  Ct 221 #[.pointer (cf g)] w fun e w' => e = .returned (.tuple #[.int .i64 (((qV s).1.1 : Nat) : Int), .bool (qV s).1.2]) ∧ Rs N S w' g (qV s).2 ∧ aI [g] w w' := by
 obtain ⟨xs, H, he, hs⟩ := H0.rd;have hgS := H.mem;have F := aI.refl [g] w;refine aZ 56 func221 ?_;intro _ aa4;refine aU ?_;refine gj 0 (fun n' L wr => ∃ (j sz b1 o1 c1 : Nat) (b : UInt8) (r : Lb), L = [(0, .pointer (cf g)), (4, .slice (some ⟨b1, o1, none⟩) 1 c1), (6, .int .i64 (sz : Int)), (7, .int .u8 (j : Int))] ∧ n' = 1 + j ∧ (s = .ok (b :: r) ∧ j ≤ b.toNat / 64 ∧ sz = 2 ^ (b.toNat / 64 - j) ∧ aI [g] w wr ∧ Rd N S wr g r 0 ∧ Kp N S (fun w => Bs w (some ⟨b1, o1, none⟩) 1 [b]) wr)) rfl ?_ ?_
 ·rintro G n' L wr ⟨j, sz, b1, o1, c1, b, r, rfl, rfl, rfl, _, hsz, F, H1, K1⟩ YV;have YZ := UInt8.toNat_lt b;have Y0 : sz ≤ 8 := by rw [hsz]; exact Nat.pow_le_pow_right (n := 2) Om (show b.toNat / 64 - j ≤ 3 by omega)
  have Y2 : 1 ≤ sz := by grind
  refine aa1 (fun Y3 => ?_) (fun Y3 => ?_)
  ·have h2 : 2 ^ (b.toNat / 64 - (j - 1)) = sz * 2 := by rw [hsz, ← Nat.pow_succ]; congr 1; omega
   refine au 10 ?_;refine ak (fG rfl rfl (IntWalk.u8_in _ ⟨Om, Om⟩)) ?_;refine aU ?_;refine bW ?_;refine YV _ _ ⟨j - 1, sz * 2, b1, o1, c1, b, r, rfl, rfl, rfl, Om, by rw [h2], F, H1, K1⟩ Om Ls
  obtain rfl : j = 0 := Om
  rw [Nat.sub_zero] at hsz
  have hbig : 4 < sz ↔ 192 ≤ b.toNat := by rw [hsz];rcases (show b.toNat / 64 = 0 ∨ b.toNat / 64 = 1 ∨ b.toNat / 64 = 2 ∨ b.toNat / 64 = 3 by omega) with h | h | h | h <;> rw [h] <;> omega
  refine aa1 (fun Za => ?_) (fun Za => ?_)
  ·refine aU ?_;refine aB func224 rfl (kv 3 3 rfl _ H1) ?_;rintro e _ ⟨rfl, H2, ex⟩;replace F := F.bD ex;refine aU ?_;refine bQ ?_;refine aa4 rfl rfl ?_;have e1 : qV (.ok (b :: r)) = ((0, false), .error 3) := by rw [nr, yZ (hbig.1 Om)]
   rw [e1];exact ⟨rfl, ⟨Om, Om, _, H2⟩, F⟩
  have hsm : ¬ 192 ≤ b.toNat := fun h => Om
  have hpl := qm (r := r) hsm hsz;refine aU ?_;refine aB func223 rfl (kH ((sz : Int) - 1) _ Om H1) ?_;rintro e w3 ⟨A3, n3, _, rfl, _, K3, H3, ex⟩;refine au 1 ?_;obtain ⟨F,K1⟩ := jT ex F K1;rw [uH r (sz - 1) (show ((sz : Int) - 1) = ((sz - 1 : Nat) : Int) by omega)] at K3 H3 ⊢;refine aU ?_;refine bw rfl (fun Zb => ?_) (fun Zb => ?_)
  ·refine aU ?_;refine bQ ?_;refine aa4 rfl rfl ?_;have hshort : r.length < sz - 1 := Classical.byContradiction fun h => by grind
   rw [if_pos hshort] at H3 hpl;have e1 : qV (.ok (b :: r)) = ((0, false), .error 4) := by rw [nr, hpl]
   rw [e1];exact ⟨rfl, ⟨Om, Om, _, H3⟩, F⟩
  have hlong : ¬ r.length < sz - 1 := fun h => by grind
  rw [if_neg hlong] at H3 K3 hpl;replace K3 : Kp N S (fun w => Bs w A3 n3 (r.take (sz - 1))) w3 := K3;replace H3 : Rd N S w3 g (r.drop (sz - 1)) 0 := H3;have Zh : n3 = sz - 1 := by rw [← K3.out.1, List.length_take]; omega
  obtain ⟨Zi, Zj, YW, _, YU⟩ := K1.out.get (k := 0) Om;injection YW with YW
  injection YW with Zc Zd _
  subst Zc; subst Zd;have hnb := vh (b := b) (t := r.take (sz - 1)) (by grind);refine au 5 ?_;refine ak (aC rfl rfl Tn.u Kr (j := 0) rfl Om) ?_;refine ak (ah rfl Tn.u rfl YU) ?_;refine ak (cT rfl rfl (Uo ⟨b.toNat, YZ⟩)) ?_;refine af (aF (z := .int .u8 0) Tn.u Kr rfl rfl rfl rfl rfl) rfl ?_;rintro _ w4 ⟨g4, rfl, B4, Ze, ex⟩;have x4 := ex; have R4 : Row w4 w3.heap.size 5 (cf g4) 1 1 ([UInt8.ofNat (b.toNat % 64)].map bv) := Row.new (cs := #[.int .u8 ((b.toNat % 64 : Nat) : Int)]) B4 Ze rfl (by show 1 ≤ maxLen; unfold maxLen; omega) |>.congr rfl (by simp [bv, UInt8.toNat_ofNat']; omega)
  refine aU ?_;refine af (aT rfl rfl bV R4 (K3.ext x4).out.2 (by rw [List.length_map, K3.out.1]) aJ Om Om x4.size) rfl ?_;rintro _ _ ⟨A5, c5, rfl, R5, be, _, _⟩;have ex := x4.trans be; have S5 := R5.cat.bs;obtain ⟨F,H3⟩ := aS ex F H3;refine aB func229 rfl (uK A5 (1 + n3) c5 _ _ S5 Om) ?_;rintro e _ ⟨rfl, ex⟩;obtain ⟨F,H3⟩ := aS ex F H3;refine au 1 ?_;refine ak (bc rfl Tn.u Tn.u (bj Om (by grind))) ?_;refine au 7 ?_;simp only [List.singleton_append];refine aB func249 rfl (rR _ _ hnb) ?_;rintro e _ ⟨rfl, ex⟩;obtain ⟨F,H3⟩ := aS ex F H3;refine aa1 (fun Zf => ?_) (fun Zf => ?_)
  ·refine aU ?_;refine aB func224 rfl (kv 3 3 rfl _ H3) ?_;rintro e _ ⟨rfl, H8, ex⟩;replace F := F.bD ex;refine aU ?_;refine bQ ?_;refine aa4 rfl rfl ?_;rw [if_neg Om] at hpl;have e1 : qV (.ok (b :: r)) = ((0, false), .error 3) := by rw [nr, hpl]
   rw [e1];exact ⟨rfl, ⟨Om, Om, _, H8⟩, F⟩
  refine aU ?_;refine bQ ?_;refine aa4 rfl rfl ?_;rw [if_pos Om] at hpl;have e1 : qV (.ok (b :: r)) = ((nb (UInt8.ofNat (b.toNat % 64) :: r.take (sz - 1)), true), .ok (r.drop (sz - 1))) := by rw [nr, hpl]
  rw [e1];exact ⟨rfl, H3, F⟩
 intro G YV;refine aU ?_;refine aB func223 rfl (kH 1 _ he H) ?_;rintro e w1 ⟨A1, n1, c1, rfl, _, K1, H1, ex⟩;replace F := F.bD ex;refine aU ?_;refine bw rfl (fun YX => ?_) (fun YX => ?_)
 ·refine aU ?_;refine bQ ?_;refine aa4 rfl rfl ?_;obtain ⟨c, e1, e2, h0, h9⟩ := TL hs he (by simpa using YX);rw [e2] at H1;rw [e1];exact ⟨rfl, ⟨h0, h9, _, H1⟩, F⟩
 obtain ⟨b, r, hsb, ht⟩ := Ey hs (by simpa using YX);rw [ht] at K1 H1;replace K1 : Kp N S (fun w => Bs w A1 n1 [b]) w1 := K1;replace H1 : Rd N S w1 g r 0 := H1;have Zg : n1 = 1 := K1.out.1.symm;subst Zg;obtain ⟨b1, o1, rfl, _, aa7⟩ := K1.out.get (k := 0) Om;refine au 10 ?_;refine ak (aC rfl rfl Tn.u Kr (j := 0) rfl Om) ?_;refine ak (ah rfl Tn.u rfl aa7) ?_;refine ak (cn rfl rfl Om (show ((b.toNat : Nat) : Int) / 64 = ((b.toNat / 64 : Nat) : Int) by omega)) ?_;refine au 3 ?_;refine dB ?_; intro Zk YY;refine iL ?_;refine ae (YY ?_);exact YV _ _ ⟨b.toNat / 64, 1, b1, o1, c1, b, r, rfl, rfl, hsb, Nat.le_refl _, by rw [Nat.sub_self], F, H1, K1⟩ Ls
theorem OX (h : se xs = .ok (n, r)) : n < 1073741824 := by
  cases xs with
  | nil => cases h
  | cons b t =>
    by_cases hb : 192 ≤ b.toNat
    · rw [yZ hb] at h; cases h
    rw [qm hb rfl] at h
    split at h
    · cases h
    split at h
    · injection h with h
      injection h with h1 _
      subst h1
      refine vh ?_
      rw [List.length_take]
      have : 2 ^ (b.toNat / 64) ≤ 2 ^ 2 := Nat.pow_le_pow_right Om Om
      omega
    cases h
theorem Nq (s : St) : (qV s).1.2 = false → iE s = ([], (qV s).2) := by
  cases s with
  | error c => intro _; rfl
  | ok xs =>
    rw [nr]
    show _ → (match AU xs with
      | .error c => (([], .error c) : List UInt8 × St)
      | .ok (v, r) => (v, .ok r)) = _
    unfold AU
    grind
theorem Nu {s : St} (h : (qV s).1.2 = true) : ∃ n r, qV s = ((n, true), .ok r) ∧ n < 1073741824 ∧ iE s = if r.length < n then ([], .error 4) else (r.take n, .ok (r.drop n)) := by
  cases s with
  | error c => cases h
  | ok xs =>
    rw [nr] at h ⊢
    show ∃ n r, _ ∧ _ ∧ (match AU xs with
      | .error c => (([], .error c) : List UInt8 × St)
      | .ok (v, r) => (v, .ok r)) = _
    unfold AU
    cases hp : se xs with
    | error c => grind
    | ok p =>
      obtain ⟨n, r⟩ := p
      refine ⟨n, r, rfl, OX hp, ?_⟩
      grind
theorem Mj {s : St} (w : aa9) (H0 : Rs N S w g s) :
  Ct 168 #[.pointer (cf g)] w fun e w' => ∃ A n c, e = .returned (.slice A n c) ∧ n ≤ c ∧ Fb w.heap.size w' A n (iE s).1 ∧ Rs N S w' g (iE s).2 ∧ aI [g] w w' := by
 have F := aI.refl [g] w;refine ai 15 func168 ?_;intro _ aa4;refine aU ?_;refine aB func221 rfl (AP _ H0) ?_;rintro e w1 ⟨rfl, H1, ex⟩;replace F := F.bD ex;refine aU ?_;refine bw rfl (fun YV => ?_) (fun YV => ?_)
 ·refine aU ?_;refine aa4 rfl ?_;rw [Nq s (by simpa using YV)];exact ⟨none, 0, 0, rfl, Nat.le_refl _, Fb.nil _ _ _, H1, F⟩
 refine au 3 ?_;obtain ⟨n, r, e1, hn, e2⟩ := Nu (s := s) (by simpa using YV);rw [e1] at H1 ⊢;replace H1 : Rd N S w1 g r 0 := H1;have YW := F.size;refine aU ?_;refine aB func222 rfl (GS (n : Int) _ Om Om H1) ?_;rintro e _ ⟨A2, n2, c2, rfl, YU, YX, H2, ex⟩;replace F := F.bD ex;rw [uH r n rfl] at YX H2;refine aU ?_;refine aa4 rfl ?_;rw [e2];refine ⟨A2, n2, c2, rfl, YU, ?_, ?_, F⟩
 ·refine Fb.mono (base := w1.heap.size) ?_ YW;grind
 by_cases hl : r.length < n
 ·rw [if_pos hl] at H2 ⊢; exact ⟨Om, Om, _, H2⟩
 rw [if_neg hl] at H2 ⊢; exact H2
end Go.Proofs.YtgfafidlkldeaaaGreat
