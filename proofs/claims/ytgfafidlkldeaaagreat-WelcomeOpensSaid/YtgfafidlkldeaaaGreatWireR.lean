/- Bytes that are taken by wire's reader: what each of its functions hands back and leaves. Lengths and vectors that are taken by wire's reader. The reference's lengths, vectors, numbers and flags at a place of bytes. -/
import Derived.Test.YtgfafidlkldeaaaGreatVc
import Derived.Test.YtgfafidlkldeaaaGreatBigC
import Derived.Test.YtgfafidlkldeaaaGreatMacB
import Derived.Test.YtgfafidlkldeaaaGreatVc7
set_option linter.unusedVariables false
set_option linter.unusedSimpArgs false
set_option maxHeartbeats 4000000
set_option maxRecDepth 4000
namespace Go.Proofs.YtgfafidlkldeaaaGreat
variable {cs : Array Value} {z : Int} {b r t xs ys : Lb} {xss : List (List UInt8)} {S S' : List Nat} {vs : List Value} {N at_ b1 b2 base c g k m n q s v x : Nat} {spare : Nat → Bool} {A A' B : Oa} {e e1 e2 : TypeId} {W w w' : World}
section
open Go.RowKit Tryz
theorem FU (hx : xs.length = n) (hy : ys.length = n) (hk : k < n) (h : xs.take k = ys.take k) (e : xs.getD k 0 = ys.getD k 0) : xs.take (k + 1) = ys.take (k + 1) := by rw [List.take_succ_eq_append_getElem Om, List.take_succ_eq_append_getElem Om, h];congr 1;simpa [hx, hy, hk] using e
theorem NG (e : xs.getD k 0 ≠ ys.getD k 0) : xs ≠ ys := fun h => e (by rw [h])
theorem zM (A B : Oa) (n m c d : Nat) (xs ys : Lb) (w : World) (ha : Bs w A n xs) (hb : Bs w B m ys) (hn : n ≤ 140737488355328) (hm : m ≤ 140737488355328) :
  Calls Tryz.prog 26 #[.slice A n c, .slice B m d] w fun e w' => e = .returned (.bool (decide (xs = ys))) ∧ ∃ k, w' = w.drewN k := by
 by_cases hnm : n = m
 ·subst hnm;have HA := Lib.hid ha; have HB := Lib.hid hb;clear ha hb;go_enter func26, ntmps26;go_wp2;go_loopw [5] (fun i wr => ∃ k q : Nat, k ≤ n ∧ i = .int .i64 k ∧ wr = w.drewN q ∧ xs.take k = ys.take k) (fun i _ => n - (intOf i).toNat);case atStart => exact ⟨0, 0, Nat.zero_le _, rfl, rfl, rfl⟩
  case round =>
   obtain ⟨k, q, hk, rfl, rfl, heq⟩ := hrel
   have HE := Lib.hid heq
   clear heq
   by_cases hlt : k < n
   ·obtain ⟨b, off, x, rfl, hx, hcx⟩ := HA.out.byte hlt
    obtain ⟨b', Vq, y, rfl, hy, hcy⟩ := HB.out.byte hlt
    by_cases he : x = y
    ·subst he
     go_wp2_with fail
     go_quiet (fail)
     go_wp2
     go_roundw
     case rel => exact ⟨k + 1, _, by omega, by go_num, rfl, FU HA.out.1 HB.out.1 hlt HE.out (hx.out.symm.trans hy.out)⟩
     case measure => simp [intOf]; omega
    have hne : ((x.toNat : Int) != (y.toNat : Int)) = true := by rw [bne_iff_ne];intro h;exact he (UInt8.toNat_inj.1 Om)
    have hxy : xs ≠ ys := NG (k := k) (by rw [← hx.out, ← hy.out]; exact he)
    have HXY := Lib.hid hxy
    clear hxy he
    go_wp2_with fail
    go_quiet (fail)
    go_wp2
    go_ret
    exact ⟨by rw [decide_eq_false HXY.out]; rfl, _, by rw [World.drewN_drewN]⟩
   go_wp2
   go_ret
   have h := HE.out
   rw [List.take_of_length_le (by rw [HA.out.1]; omega), List.take_of_length_le (by rw [HB.out.1]; omega)] at h
   exact ⟨by rw [decide_eq_true h]; rfl, _, rfl⟩
 have hxy : xs ≠ ys := fun e => hnm (by rw [← ha.1, ← hb.1, e]);have HXY := Lib.hid hxy;clear hxy ha hb;go_enter func26, ntmps26;go_wp2;go_ret;exact ⟨by rw [decide_eq_false HXY.out]; rfl, 0, rfl⟩
end
section
open Go.RowKit Tryz
attribute [local irreducible] Y Ef WL WC WK WQ WM cv
theorem Qk {xs : List Value} (h : Row w base e A n c xs) (hg : w.heap.size ≤ g) : Dj A (some ⟨g, 0, none⟩) := fun b o b' o' h1 h2 => by
 subst h1;injection h2 with h2
 injection h2 with h2 _ _
 have := (Row.lt h).2;omega
theorem sI (A B : Oa) (n c m d k : Nat) (ks is : Lb) (w : World) (HA : Bs w A n ks) (hn : n ≤ 35184372088832) (HB : Bs w B m is) (hm : m ≤ 35184372087000) (hk : k ≤ 8160) :
  Ct 191 #[.slice A n c, .slice B m d, .int .i64 (k : Int)] w fun e w' => ∃ A' c', e = .returned (.tuple #[.slice A' k c', .int .u8 0]) ∧ Bn w.heap.size w' A' k (Kdf.expand ks is k) ∧ k ≤ c' ∧ Ext w w' := by
 refine bL 36 func191 rfl rfl rfl rfl ?_;intro _ hret;refine aU ?_;refine fY 0 (fun n' L wr => ∃ (j c8 m9 c9 : Nat) (A8 A9 : Oa), L = [(0, .slice A n c), (1, .slice B m d), (2, .int .i64 (k : Int)), (8, .slice A8 (32 * j) c8), (9, .slice A9 m9 c9), (10, .int .u8 (j : Int))] ∧ n' = 256 - j ∧ (j ≤ 255 ∧ Ext w wr ∧ Row wr w.heap.size 5 A8 (32 * j) c8 ((Kdf.Au ks is j).map bv) ∧ Bs wr A9 m9 (Kdf.T ks is j))) rfl ?_ ?_
 ·rintro G n' L wr ⟨j, c8, m9, c9, A8, A9, rfl, rfl, _, F, R, H9⟩ Vq;refine aU ?_;refine ak rfl (fun Vs => ?_) (fun Vs => ?_)
  ·have hcnt : (UInt8.ofNat (j + 1)).toNat = j + 1 := by rw [UInt8.toNat_ofNat']; omega
   have hT := Kdf.SD ks is j;refine au 3 ?_;refine al (aN rfl rfl (mR (x := j + 1) Om)) ?_;refine aU ?_;refine ag (aF (z := .int .u8 0) Tn.u Kr rfl rfl rfl rfl rfl) rfl ?_;rintro _ w4 ⟨g4, rfl, B4, _, ex⟩;have F4 := F.ext ex; have H4 : Bs w4 (some ⟨g4, 0, none⟩) 1 [UInt8.ofNat (j + 1)] := bh (xs := [UInt8.ofNat (j + 1)]) (B4.congr rfl) rfl; have Vt := H9.ext ex; have Ra := R.ext ex;refine ag (aF (z := .slice none 0 0) Tn.u Kr rfl rfl rfl rfl rfl) rfl ?_;rintro _ _ ⟨_, rfl, B5, _, ex⟩;have F5 := F4.ext ex; have S5 := mL B5 (Vt.ext ex) (HB.wk F5) (H4.ext ex); have Rb := Ra.ext ex;refine aC func112 rfl (wV A _ n c 3 3 ks _ _ (HA.wk F5) hn S5 Om (by simp [HB.1]; omega)) ?_;rintro e _ ⟨g6, rfl, Vu, B6, ex⟩;have F6 := F5.ext ex; have H6 := bh B6 (Mac.dQ _ _); have hdj := Qk Rb Vu; have Rc := Rb.ext ex; have Vv := F6.size;refine aU ?_;refine ag (aX rfl rfl bT Rc H6.2 (by rw [List.length_map, Mac.dQ]) aJ Om Om Vv) rfl ?_;rintro _ _ ⟨A7, c7, rfl, R7, be, gr, _⟩;have F7 := F6.trans be; have R8 := R7.cat; have H8 := H6.app hdj gr Rc.gG; have hTj : Mac.tag ks [Kdf.T ks is j, is, [UInt8.ofNat (j + 1)]].flatten = Kdf.T ks is (j + 1) := by simp [Kdf.T]
   rw [hTj] at R8 H8;refine aU ?_;refine cz ?_;refine Vq _ _ ⟨j + 1, c7, 32, 32, A7, some ⟨g6, 0, none⟩, rfl, rfl, by omega, F7, R8, H8⟩ Om Ls
  refine au 6 ?_;refine al (lV (s := 1) rfl rfl Tn.u Kr (j := k) rfl (by have := R.cap; omega)) ?_;refine aU ?_;refine bW ?_;refine hret rfl rfl ?_;exact ⟨A8, c8, rfl, ⟨by have := R.bs.take (k := k) Om; rw [Kdf.vz _ _ _ _ Om] at this; exact this, R.bn.2⟩, by have := R.cap; omega, F⟩
 intro G Vq;refine au 25 ?_;refine er ?_; intro Vw Vr;refine iq ?_;refine ae (Vr ?_);exact Vq _ _ ⟨0, 0, 0, 0, none, none, rfl, rfl, by omega, Ext.refl _, Row.empty _ _ _, Bs.nil _ none⟩ Ls
theorem SV : Ap Tryz.prog 127 23 24 := Ap.of underlying127 (z := .slice none 0 0) Kr rfl
def jP (w : World) (A : Oa) (vs : List Value) (xss : List (List UInt8)) : Prop :=
 vs.length = xss.length ∧ ∀ i, i < xss.length → ∃ B m c, vs[i]? = some (.slice B m c) ∧ Bs w B m (xss.getD i []) ∧ Dj A B ∧ ∀ b o s, B = some ⟨b, o, s⟩ → b < w.heap.size
theorem jP.nil (w : World) (A : Oa) : jP w A [] [] := ⟨rfl, fun i hi => by cases hi⟩
theorem jP.ext (h : jP w A vs xss) (e : Ext w w') : jP w' A vs xss :=
 ⟨h.1, fun i hi => by
  obtain ⟨B, m, c, h1, h2, h3, h4⟩ := h.2 i hi
  exact ⟨B, m, c, h1, h2.ext e, h3, fun b o s hb => Nat.lt_of_lt_of_le (h4 b o s hb) e.size⟩⟩
theorem jP.snoc (h : jP w A vs xss) (hb : Bs w B m xs) (hd : Dj A B) (hl : ∀ b o s, B = some ⟨b, o, s⟩ → b < w.heap.size) : jP w A (vs ++ [.slice B m c]) (xss ++ [xs]) :=
 ⟨by simp [h.1], fun i hi => by
  by_cases hlt : i < xss.length
  ·obtain ⟨B', m', c', h1, h2, h3, h4⟩ := h.2 i hlt;exact ⟨B', m', c', by rw [List.getElem?_append_left (by rw [h.1]; exact hlt)]; exact h1, by simpa [List.getElem?_append, hlt] using h2, h3, h4⟩
  have : i = xss.length := by simp at hi; omega
  subst this
  exact ⟨B, m, c, by rw [← h.1]; simp, by simpa using hb, hd, hl⟩⟩
theorem jP.app {n' c' : Nat} (h : jP w A vs xss) (hg : w.grownBy w' (Value.slice A n c).ownBlock)
    (hl : (Value.slice A' n' c').ownBlock = (Value.slice A n c).ownBlock ∨ (Value.slice A' n' c').ownBlock = some w.heap.size) (hA : ∀ b o s, A = some ⟨b, o, s⟩ → s = none) : jP w' A' vs xss :=
  ⟨h.1, fun i hi => by
    obtain ⟨B, m, k, h1, h2, h3, h4⟩ := h.2 i hi;refine ⟨B, m, k, h1, h2.app h3 hg hA, ?_, fun b o s hb => Nat.lt_of_lt_of_le (h4 b o s hb) hg.size⟩;intro b o _ o' e1 e2 hbb;subst e1; subst e2; subst hbb;have hlt := h4 b o' none rfl;rcases hl with hl | hl
    · cases A with
      | none => simp [Value.ownBlock] at hl
      | some a =>
        obtain ⟨b2, o2, s⟩ := a
        have := hA b2 o2 s rfl
        subst this
        simp only [Value.ownBlock, Option.some.injEq] at hl
        exact h3 b2 o2 b o' rfl rfl hl.symm
    simp only [Value.ownBlock, Option.some.injEq] at hl
    omega⟩
theorem Kh {d : Nat} {xs ys : List Value} (h : Row w b1 e1 A n c xs) (k : Row w' b2 e2 B m d ys) (hb : w.heap.size ≤ b2) : Dj A B := fun b o b' o' h1 h2 => by subst h1; subst h2;have h3 := (Row.lt h).2;have h4 := (Row.lt k).1;omega
theorem Row.Ln {xs : List Value} (h : Row w base e A n c xs) (b o : Nat) (s) (hA : A = some ⟨b, o, s⟩) : b < w.heap.size := by have := h.gG b o s hA;subst this; subst hA;exact (Row.lt h).2
def Ts (ks is : Lb) (j : Nat) : List (List UInt8) := (List.range j).map fun i => Kdf.T ks is (i + 1)
theorem vw (ks is : Lb) (j : Nat) : (Ts ks is j).length = j := by simp [Ts]
theorem DP (ks is : Lb) (j : Nat) : Ts ks is (j + 1) = Ts ks is j ++ [Kdf.T ks is (j + 1)] := by simp [Ts, List.range_succ]
theorem Is (ks is : Lb) (j i : Nat) (h : i < j) : (Ts ks is j).getD i [] = Kdf.T ks is (i + 1) := by simp [Ts, h]
theorem uv (A B : Oa) (n c m d k : Nat) (ks is : Lb) (w : World) (HA : Bs w A n ks) (hn : n ≤ 35184372088832) (HB : Bs w B m is) (hm : m ≤ 35184372087000) (hk : k ≤ 8160) :
  Ct 116 #[.slice A n c, .slice B m d, .int .i64 (k : Int)] w fun e w' => ∃ A' c', e = .returned (.slice A' k c') ∧ Bs w' A' k (Kdf.expand ks is k) ∧ Ext w w' := by
 refine ai 57 func116 rfl rfl rfl rfl ?_;intro _ hret;refine aU ?_;refine aD (fun n' L wr => ∃ (j c7 : Nat) (A7 : Oa) (vs : List Value), L = [(0, .slice A n c), (1, .slice B m d), (2, .int .i64 (k : Int)), (7, .slice A7 j c7), (8, .int .i64 (j : Int))] ∧ n' = 256 - j ∧ (j ≤ (k + 31) / 32 ∧ Ext w wr ∧ Row wr w.heap.size 23 A7 j c7 vs ∧ jP wr A7 vs (Ts ks is j))) _ _ ⟨0, 0, none, [], rfl, rfl, by omega, Ext.refl _, Row.empty _ _ _, jP.nil _ _⟩ Ls ?_;rintro _ n' L wr ⟨j, c7, A7, vs, rfl, rfl, _, F, R, HP⟩ VS;refine au 6 ?_;refine al (dG rfl rfl Om (IntWalk.i64_quo _ _ Om)) ?_;refine aU ?_;refine ak rfl (fun VU => ?_) (fun VU => ?_)
 ·have hT := Kdf.SD ks is j;refine aU ?_;refine ak rfl (fun VV => ?_) (fun VV => ?_)
  ·obtain ⟨j', VW⟩ : ∃ j', j = j' + 1 := ⟨j - 1, by omega⟩
   obtain ⟨g, v, rfl, hv, hcell, _⟩ := R.get (i := j') Om;obtain ⟨D, q, r, hvD, HD, hDj, _⟩ := HP.2 j' (by rw [vw]; omega);rw [hv] at hvD;injection hvD with hvD
   subst hvD;rw [Is ks is j j' Om, ← VW] at HD;have hTl := HD.1;refine au 5 ?_;refine al (aB rfl rfl Tn.u Kr (j := j') Om Om) ?_;refine al (af rfl Tn.u rfl hcell) ?_;refine ag (iF rfl rfl bT (Row.empty _ wr.heap.size _) HD.2 (by rw [List.length_map, HD.1]) aJ Om Om (Nat.le_refl _)) rfl ?_;rintro _ w7 ⟨_, _, rfl, R9, be, gr, hl⟩;have x7 : Ext wr w7 := be;have Vz := x7.size;refine aU ?_;refine ag (aX rfl rfl bT R9 (HB.wk (F.ext x7)).2 (by rw [List.length_map, HB.1]) aJ Om Om Vz) rfl ?_;rintro _ w8 ⟨Vt, c10, rfl, VA, be, gr, hl⟩;have x8 : Ext wr w8 := x7.trans be; have VB := VA.cat;refine au 2 ?_;refine al (bo rfl Tn.u Tn.u (mR (x := j + 1) Om)) ?_;refine ag (aF (z := .int .u8 0) Tn.u Kr rfl rfl rfl rfl rfl) rfl ?_;rintro _ w9 ⟨g9, rfl, B9, VX, ex⟩;have x9 := x8.ext ex; have VC := VB.ext ex; have VD := x9.size;refine ag (aX rfl rfl bT VC (At.jn (vs := [UInt8.ofNat (j + 1)].map bv) (B9.congr rfl)) rfl aJ Om Om VD) rfl ?_;rintro _ VE ⟨VY, VF, rfl, VG, be, gr, hl⟩;have Vq : Ext wr VE := x9.trans be; have VH := VG.cat.bs;refine aU ?_;refine aC func18 rfl (kf A _ n c _ VF ks _ _ (HA.wk (F.ext Vq)) hn VH Om) ?_;rintro e VZ ⟨V0, VI, rfl, Vr, ex⟩;refine aU ?_;have Vu := Vq.ext ex; have VJ := R.ext Vu; have hdj := Kh (R.ext Vq) Vr (Nat.le_refl _);refine ag (aF (z := .slice none 0 0) Tn.u Kr rfl rfl rfl rfl rfl) rfl ?_;rintro _ V4 ⟨V5, rfl, VK, VL, ex⟩
   have Vv := Vu.ext ex; have Vw := F.ext Vv; have Vs := Vw.size; have Vx := VJ.ext ex; have VM := ((HP.ext Vv).snoc (c := VI) (Vr.ext ex).bs hdj (Vr.ext ex).Ln)
   refine ag (aX rfl rfl SV Vx (At.jn VK) rfl (by intro u hu; simp at hu; subst hu; rfl) Om Om Vs) rfl ?_;rintro _ V6 ⟨VN, VO, rfl, VP, be, gr, hl⟩;have VQ := Vw.trans be; have Vy := VM.app gr hl Vx.gG; rw [show Mac.tag ks (Kdf.T ks is j ++ is ++ [UInt8.ofNat (j + 1)]) = Kdf.T ks is (j + 1) from rfl, ← DP] at Vy;refine au 9 ?_;refine ae ?_;refine VS _ _ ⟨j + 1, VO, VN, _, rfl, rfl, by omega, VQ, VP, Vy⟩ Om Ls
  have x7 := Ext.refl wr; have R9 : Row wr wr.heap.size 5 none 0 0 ((Kdf.T ks is j).map bv) := by
   obtain rfl : j = 0 := by omega
   exact Row.empty _ _ _
  have Vz := x7.size;refine aU ?_;refine ag (aX rfl rfl bT R9 (HB.wk (F.ext x7)).2 (by rw [List.length_map, HB.1]) aJ Om Om Vz) rfl ?_;rintro _ w8 ⟨Vt, c10, rfl, VA, be, gr, hl⟩;have x8 : Ext wr w8 := x7.trans be; have VB := VA.cat;refine au 2 ?_;refine al (bo rfl Tn.u Tn.u (mR (x := j + 1) Om)) ?_;refine ag (aF (z := .int .u8 0) Tn.u Kr rfl rfl rfl rfl rfl) rfl ?_;rintro _ w9 ⟨g9, rfl, B9, VX, ex⟩;have x9 := x8.ext ex; have VC := VB.ext ex; have VD := x9.size;refine ag (aX rfl rfl bT VC (At.jn (vs := [UInt8.ofNat (j + 1)].map bv) (B9.congr rfl)) rfl aJ Om Om VD) rfl ?_;rintro _ VE ⟨VY, VF, rfl, VG, be, gr, hl⟩;have Vq : Ext wr VE := x9.trans be; have VH := VG.cat.bs;refine aU ?_;refine aC func18 rfl (kf A _ n c _ VF ks _ _ (HA.wk (F.ext Vq)) hn VH Om) ?_;rintro e VZ ⟨V0, VI, rfl, Vr, ex⟩;refine aU ?_;have Vu := Vq.ext ex; have VJ := R.ext Vu; have hdj := Kh (R.ext Vq) Vr (Nat.le_refl _);refine ag (aF (z := .slice none 0 0) Tn.u Kr rfl rfl rfl rfl rfl) rfl ?_;rintro _ V4 ⟨V5, rfl, VK, VL, ex⟩
  have Vv := Vu.ext ex; have Vw := F.ext Vv; have Vs := Vw.size; have Vx := VJ.ext ex; have VM := ((HP.ext Vv).snoc (c := VI) (Vr.ext ex).bs hdj (Vr.ext ex).Ln)
  refine ag (aX rfl rfl SV Vx (At.jn VK) rfl (by intro u hu; simp at hu; subst hu; rfl) Om Om Vs) rfl ?_;rintro _ V6 ⟨VN, VO, rfl, VP, be, gr, hl⟩;have VQ := Vw.trans be; have Vy := VM.app gr hl Vx.gG; rw [show Mac.tag ks (Kdf.T ks is j ++ is ++ [UInt8.ofNat (j + 1)]) = Kdf.T ks is (j + 1) from rfl, ← DP] at Vy;refine au 9 ?_;refine ae ?_;refine VS _ _ ⟨j + 1, VO, VN, _, rfl, rfl, by omega, VQ, VP, Vy⟩ Om Ls
 obtain ⟨q, hq⟩ : ∃ q, q = (k + 31) / 32 := ⟨_, rfl⟩
 obtain rfl : j = q := by omega
 refine aU ?_;refine aD (fun n' L ws => ∃ (i c10 : Nat) (Vt : Oa), L = [(2, .int .i64 (k : Int)), (7, .slice A7 j c7), (10, .slice Vt (32 * i) c10), (11, .int .i64 (i : Int))] ∧ n' = j - i ∧ (i ≤ j ∧ Ext wr ws ∧ Row ws wr.heap.size 5 Vt (32 * i) c10 ((Kdf.Au ks is i).map bv))) _ _ ⟨0, 0, none, rfl, rfl, by omega, Ext.refl _, Row.empty _ _ _⟩ Ls ?_;rintro _ n' L ws ⟨i, c10, Vt, rfl, rfl, _, G, S⟩ V9;refine aU ?_;refine ak rfl (fun Wa => ?_) (fun Wa => ?_)
 ·obtain ⟨g, v, rfl, hv, hcell, _⟩ := (R.ext G).get (i := i) Om;obtain ⟨D, q, r, hvD, HD, hDj, _⟩ := (HP.ext G).2 i (by rw [vw]; omega);rw [hv] at hvD;injection hvD with hvD
  subst hvD;rw [Is ks is j i Om] at HD;have hTl := HD.1;rw [Kdf.yQ] at hTl;have hsG := G.size;refine au 8 ?_;refine al (aB rfl rfl Tn.u Kr (j := i) rfl Om) ?_;refine al (af rfl Tn.u rfl hcell) ?_;refine ag (aX rfl rfl bT S HD.2 (by rw [List.length_map, HD.1]) aJ Om Om hsG) rfl ?_;rintro _ Wb ⟨Wc, We, rfl, Wf, be, gr, hl⟩;have Wg : Ext wr Wb := G.trans be; have VT := Wf.cat; rw [show Kdf.Au ks is i ++ Kdf.T ks is (i + 1) = Kdf.Au ks is (i + 1) from rfl, ← hTl] at VT;refine au 9 ?_;refine ae ?_;have VR : q = 32 := by omega
  subst VR;refine V9 _ _ ⟨i + 1, We, Wc, rfl, rfl, by omega, Wg, VT⟩ Om Ls
 refine au 9 ?_;refine al (lV (s := 1) rfl rfl Tn.u Kr (j := k) rfl (by have := S.cap; omega)) ?_;refine aU ?_;refine hret rfl ?_;exact ⟨Vt, c10, rfl, by have := S.bs.take (k := k) Om; rw [Kdf.vz _ _ _ _ Om] at this; exact this, F.ext G⟩
theorem qy (A B : Oa) (n c m d : Nat) (xs ys : Lb) (w : World) (HA : Bs w A n xs) (hn : n ≤ 35184372088832) (HB : Bs w B m ys) (hm : m ≤ 35184372088000) :
  Ct 99 #[.slice A n c, .slice B m d] w fun e w' => ∃ A' c', e = .returned (.slice A' 32 c') ∧ Bs w' A' 32 (Mac.tag xs ys) ∧ Ext w w' := by
 have E := Ext.refl w;refine ai 9 func99 rfl rfl rfl rfl ?_;intro _ hret;refine aU ?_;refine ag (aF (z := .slice none 0 0) Tn.u Kr rfl rfl rfl rfl rfl) rfl ?_;rintro _ _ ⟨_, rfl, B1, _, ex⟩;obtain ⟨HA,HB,E⟩ := bF ex HA HB E;have S1 := mD B1 HB;refine aC func112 rfl (wV A _ n c 1 1 xs _ _ HA hn S1 Om (by simp [HB.1]; omega)) ?_;rintro e _ ⟨_, rfl, _, B2, ex⟩;replace E := E.ext ex;have H2 := bh B2 (Mac.dQ _ _);refine aU ?_;refine hret rfl ?_;exact ⟨_, _, rfl, by simpa using H2, E⟩
theorem vD (A B : Oa) (n c m d k : Nat) (s : ByteArray) (ks cs : Lb) (w : World) (HA : Bs w A n ks) (hn : n ≤ 35184372088832) (hs : s.size ≤ 1048576) (HB : Bs w B m cs) (hm : m ≤ 1048576) (hk : k ≤ 8160) :
  Ct 130 #[.slice A n c, .string s, .slice B m d, .int .i64 (k : Int)] w fun e w' => ∃ A' c', e = .returned (.tuple #[.slice A' k c', .int .u8 0]) ∧ Bn w.heap.size w' A' k (Kdf.label ks s.data.toList cs k) ∧ k ≤ c' ∧ Ext w w' := by
 have E := Ext.refl w;have Vu := Wire.bE (8 + s.size); have Vv := Wire.bE m;have hcs : (⟨#[77, 76, 83, 32, 49, 46, 48, 32]⟩ : ByteArray).size = 8 := rfl;refine bL 43 func130 rfl rfl rfl rfl ?_;intro _ hret;refine au 23 ?_;refine al (FN rfl Tn.u) ?_;refine aU ?_;refine aC func131 rfl (je none 0 0 2 k [] _ (Bs.nil _ _) Om Om Om) ?_;rintro e _ ⟨A1, c1, rfl, R1, ex⟩;obtain ⟨HA,HB,E⟩ := bF ex HA HB E;have H1 := R1.bs;refine au 8 ?_;refine al (tJ rfl rfl Om) ?_;refine ag (pJ rfl Tn.u Tn.u Tn.u) rfl ?_;rintro _ _ ⟨_, c2, rfl, H2, _, ex⟩;obtain ⟨HA,HB,E,H1⟩ := bU ex HA HB E H1;rw [wM, eP] at H2;refine aC func162 rfl (dV A1 _ _ c1 _ c2 _ _ _ H1 Om (by rw [eP]; exact H2) (by rw [eP]; omega)) ?_;rintro e _ ⟨A3, k3, c3, rfl, R3, Vq, ex⟩;obtain ⟨HA,HB,E⟩ := bF ex HA HB E;have H3 := R3.bs; rw [eP] at Vq;refine aU ?_;refine aC func162 rfl (dV A3 B k3 c3 m d _ cs _ H3 Om HB Om) ?_;rintro e _ ⟨A4, k4, c4, rfl, R4, _, ex⟩;obtain ⟨HA,E⟩ := aZ ex HA E;have H4 := R4.bs;refine aU ?_;have Vr := E.size;refine aC func191 rfl (sI A A4 n c k4 c4 k ks _ _ HA hn H4 Om hk) ?_;rintro e _ ⟨A5, c5, rfl, ⟨H5, Vs⟩, Vt, ex⟩;replace E := E.ext ex;refine aU ?_;refine hret rfl rfl ?_;exact ⟨A5, c5, rfl, Bn.lo ⟨H5, Vs⟩ Vr, Vt, E⟩
theorem iR (A : Oa) (n c : Nat) (s : ByteArray) (ks : Lb) (w : World) (HA : Bs w A n ks) (hn : n ≤ 35184372088832) (hs : s.size ≤ 1048576) :
  Ct 67 #[.slice A n c, .string s] w fun e w' => ∃ A' c', e = .returned (.slice A' 32 c') ∧ Bn w.heap.size w' A' 32 (Kdf.label ks s.data.toList [] 32) ∧ Ext w w' := by
 refine ai 14 func67 rfl rfl rfl rfl ?_;intro _ hret;refine aU ?_;refine aC func130 rfl (vD A none n c 0 0 32 s ks [] _ HA hn hs (Bs.nil _ _) Om Om) ?_;rintro e _ ⟨A1, c1, rfl, H1, _, ex⟩;refine aU ?_;refine hret rfl ?_;exact ⟨A1, c1, rfl, H1, ex⟩
theorem NR (B : Oa) (m d : Nat) (s : ByteArray) (cs : Lb) (w : World) (HB : Bs w B m cs) (hs : s.size ≤ 1048576) (hm : m ≤ 1048576) :
  Ct 86 #[.string s, .slice B m d] w fun e w' => ∃ A' c', e = .returned (.slice A' 32 c') ∧ Bn w.heap.size w' A' 32 (Sha.sum (Wire.vec s.data.toList ++ Wire.vec cs)) ∧ Ext w w' := by
 have E := Ext.refl w;have Vq := Wire.bE s.size; have Vr := Wire.bE m;refine ai 12 func86 rfl rfl rfl rfl ?_;intro _ hret;refine aU ?_;refine ag (pJ rfl Tn.u Tn.u Tn.u) rfl ?_;rintro _ _ ⟨_, c2, rfl, H2, _, ex⟩;obtain ⟨HB,E⟩ := aZ ex HB E;refine aC func162 rfl (dV none _ 0 0 _ c2 [] _ _ (Bs.nil _ _) Om H2 Om) ?_;rintro e _ ⟨A3, k3, c3, rfl, R3, _, ex⟩;obtain ⟨HB,E⟩ := aZ ex HB E;have H3 := R3.bs;refine aU ?_;refine aC func162 rfl (dV A3 B k3 c3 m d _ cs _ H3 Om HB Om) ?_;rintro e _ ⟨_, _, _, rfl, R4, _, ex⟩;refine aU ?_;replace E := E.ext ex;have H4 := R4.bs;refine ag (aF (z := .slice none 0 0) Tn.u Kr rfl rfl rfl rfl rfl) rfl ?_;rintro _ _ ⟨_, rfl, B5, _, ex⟩;obtain ⟨E,H4⟩ := aZ ex E H4;have S5 := mD B5 H4;have Vs := E.size;refine aC func161 rfl (wP _ 1 1 _ _ S5 Om (by simp only [List.flatten_cons, List.flatten_nil, List.append_nil]; rw [H4.1]; omega)) ?_;rintro e _ ⟨_, rfl, _, B6, ex⟩;replace E := E.ext ex;have H6 := bh B6 (Sha.cn _);refine aU ?_;refine hret rfl ?_;exact ⟨_, _, rfl, ⟨by simpa using H6, Nw.of B6 Om⟩, E⟩
theorem dN (A B : Oa) (n c m d k : Nat) (s : ByteArray) (ks cs : Lb) (w : World) (HA : Bs w A n ks) (hn : n ≤ 35184372088832) (hs : s.size ≤ 1048576) (HB : Bs w B m cs) (hm : m ≤ 1048576) (hk : k ≤ 8160) :
  Ct 47 #[.slice A n c, .string s, .slice B m d, .int .i64 (k : Int)] w fun e w' => ∃ A' c', e = .returned (.slice A' k c') ∧ Bs w' A' k (Kdf.label ks s.data.toList cs k) ∧ Ext w w' := by
 have E := Ext.refl w;have Vw := Wire.bE (8 + s.size); have Vx := Wire.bE m;have hcs : (⟨#[77, 76, 83, 32, 49, 46, 48, 32]⟩ : ByteArray).size = 8 := rfl;refine ai 26 func47 rfl rfl rfl rfl ?_;intro _ hret;have Vq := HA; have Vr := HB;refine aU ?_;refine aC func56 rfl (jk 2 k _ Om Om) ?_;rintro e _ ⟨_, _, rfl, R1, ex⟩;replace E := E.ext ex;refine au 8 ?_;refine al (tJ rfl rfl Om) ?_;refine ag (pJ rfl Tn.u Tn.u Tn.u) rfl ?_;rintro _ _ ⟨_, c2, rfl, H2, _, ex⟩;obtain ⟨E,R1⟩ := aZ ex E R1;rw [wM, eP] at H2;refine aC func54 rfl (cI _ _ c2 _ _ (by rw [eP]; exact H2) (by rw [eP]; omega)) ?_;rintro e _ ⟨_, _, _, rfl, R3, Vs, ex⟩;refine aU ?_;obtain ⟨E,R1⟩ := aZ ex E R1;have H3 := R3.bs; have Vt := E.size; rw [eP] at Vs;refine ag (aX rfl rfl bT R1 H3.2 (by rw [List.length_map, H3.1]) aJ Om Om Vt) rfl ?_;rintro _ _ ⟨_, _, rfl, R4, be, gr, hl⟩;have E4 := E.trans be; have R5 := R4.cat;refine aU ?_;refine aC func54 rfl (cI B m d cs _ (Vr.wk E4) Om) ?_;rintro e _ ⟨_, _, _, rfl, R6, _, ex⟩;refine aU ?_;have R7 := R5.ext ex; have H6 := R6.bs; have E5 := E4.ext ex; have Vu := E5.size;refine ag (aX rfl rfl bT R7 H6.2 (by rw [List.length_map, H6.1]) aJ Om Om Vu) rfl ?_;rintro _ _ ⟨A8, c8, rfl, R8, be, gr, hl⟩;have E6 := E5.trans be; have H9 := R8.cat.bs;refine aU ?_;refine aC func116 rfl (uv A A8 n c _ c8 k ks _ _ (Vq.wk E6) hn H9 Om hk) ?_;rintro e _ ⟨A9, c9, rfl, Vv, ex⟩;have E7 := E6.ext ex;refine aU ?_;refine hret rfl ?_;exact ⟨A9, c9, rfl, Vv, E7⟩
theorem AF (B : Oa) (m d : Nat) (s : ByteArray) (cs : Lb) (w : World) (HB : Bs w B m cs) (hs : s.size ≤ 1048576) (hm : m ≤ 1048576) :
  Ct 34 #[.string s, .slice B m d] w fun e w' => ∃ A' c', e = .returned (.slice A' 32 c') ∧ Bs w' A' 32 (Sha.sum (Wire.vec s.data.toList ++ Wire.vec cs)) ∧ Ext w w' := by
 have E := Ext.refl w;have Vs := Wire.bE s.size; have Vt := Wire.bE m;refine ai 12 func34 rfl rfl rfl rfl ?_;intro _ hret;refine aU ?_;refine ag (pJ rfl Tn.u Tn.u Tn.u) rfl ?_;rintro _ _ ⟨_, c2, rfl, H2, _, ex⟩;obtain ⟨HB,E⟩ := aZ ex HB E;have Vq := E.size;refine aC func54 rfl (cI _ _ c2 _ _ H2 Om) ?_;rintro e _ ⟨_, _, _, rfl, R3, _, ex⟩;obtain ⟨HB,E⟩ := aZ ex HB E;replace R3 := R3.lower Vq;refine aU ?_;refine aC func54 rfl (cI B m d cs _ HB Om) ?_;rintro e _ ⟨_, _, _, rfl, R4, _, ex⟩;refine aU ?_;obtain ⟨E,R3⟩ := aZ ex E R3;have H4 := R4.bs; have Vr := E.size;refine ag (aX rfl rfl bT R3 H4.2 (by rw [List.length_map, H4.1]) aJ Om Om Vr) rfl ?_;rintro _ _ ⟨A5, c5, rfl, R5, be, _, _⟩;have E5 := E.trans be; have H5 := R5.cat.bs;refine aC func52 rfl (fT A5 _ c5 _ _ H5 Om) ?_;rintro e _ ⟨_, _, rfl, O6, ex⟩;have E6 := E5.ext ex; have H6 := O6.bs;refine aU ?_;refine hret rfl ?_;exact ⟨_, _, rfl, H6, E6⟩
end
section
open Go.RowKit Tryz
attribute [local irreducible] Y Ef WL WC WK WQ WM cv WN WF cZ
structure Ctx where
 grp : List UInt8
 ep : Nat
 tree : List UInt8
 trans : List UInt8
def dw (c : Ctx) : List UInt8 := Wire.be 2 1 ++ Wire.be 2 1 ++ Wire.vec c.grp ++ Wire.be 8 c.ep ++ Wire.vec c.tree ++ Wire.vec c.trans ++ [0]
def Fo (A1 A2 A3 : Oa) (n1 c1 n2 c2 n3 c3 e : Nat) : Array Value := #[.slice A1 n1 c1, .int .u64 (e : Int), .slice A2 n2 c2, .slice A3 n3 c3]
def gP (w : World) (cs : Array Value) (c : Ctx) : Prop := ∃ A1 A2 A3 n1 c1 n2 c2 n3 c3, cs = Fo A1 A2 A3 n1 c1 n2 c2 n3 c3 c.ep ∧ Bs w A1 n1 c.grp ∧ Bs w A2 n2 c.tree ∧ Bs w A3 n3 c.trans
theorem gP.ext {c : Ctx} (h : gP w cs c) (k : Ext w w') : gP w' cs c := by obtain ⟨A1, A2, A3, n1, c1, n2, c2, n3, c3, h0, h1, h2, h3⟩ := h;exact ⟨A1, A2, A3, n1, c1, n2, c2, n3, c3, h0, h1.ext k, h2.ext k, h3.ext k⟩
theorem gP.size {c : Ctx} (h : gP w cs c) : cs.size = 4 := by obtain ⟨A1, A2, A3, n1, c1, n2, c2, n3, c3, rfl, _⟩ := h; rfl
def Ctx.Small (c : Ctx) : Prop := c.grp.length ≤ 200 ∧ c.tree.length ≤ 200 ∧ c.trans.length ≤ 200 ∧ c.ep < 18446744073709551616
theorem kZ {c : Ctx} (h : c.Small) : (dw c).length ≤ 700 := by obtain ⟨h1, h2, h3, h4⟩ := h;have := Wire.bE c.grp.length; have := Wire.bE c.tree.length; have := Wire.bE c.trans.length;unfold dw;simp only [List.length_append, Wire.iK, Wire.iV, List.length_cons, List.length_nil];omega
theorem mc (A : Oa) (n c s x : Nat) (xs : Lb) (w : World) (HA : Bs w A n xs) (hn : n ≤ 70368744177664) (hs : s = 1 ∨ s = 2 ∨ s = 4 ∨ s = 8) (hx : x < 18446744073709551616) :
  Ct 163 #[.slice A n c, .int .i64 (s : Int), .int .u64 (x : Int)] w fun e w' => ∃ A' c', e = .returned (.slice A' (n + s) c') ∧ Row w' w.heap.size 5 A' (n + s) c' ((xs ++ Wire.be s x).map bv) ∧ Ext w w' := by
 refine ai 11 func163 rfl rfl rfl rfl ?_;intro _ hret;refine aU ?_;refine aC func131 rfl (je A n c s x xs _ HA hn hs hx) ?_;rintro e _ ⟨A1, c1, rfl, R1, ex⟩;refine aU ?_;refine hret rfl ?_;exact ⟨A1, c1, rfl, R1, ex⟩
theorem ir (A B : Oa) (n c m d : Nat) (xs ys : Lb) (w : World) (HA : Bs w A n xs) (hn : n ≤ 35184372088832) (HB : Bs w B m ys) (hm : m < 1073741824) :
  Ct 87 #[.slice A n c, .slice B m d] w fun e w' => ∃ A' k c', e = .returned (.slice A' k c') ∧ Row w' w.heap.size 5 A' k c' ((xs ++ Wire.vec ys).map bv) ∧ k = n + (Wire.jK m + m) ∧ Ext w w' := by
 refine ai 8 func87 rfl rfl rfl rfl ?_;intro _ hret;refine aU ?_;refine aC func162 rfl (dV A B n c m d xs ys _ HA hn HB hm) ?_;rintro e _ ⟨A1, k1, c1, rfl, R1, hk, ex⟩;refine aU ?_;refine hret rfl ?_;exact ⟨A1, k1, c1, rfl, R1, hk, ex⟩
theorem dS (A B : Oa) (n c m d : Nat) (xs ys : Lb) (w : World) (HA : Bs w A n xs) (hn : n ≤ 35184372088832) (HB : Bs w B m ys) (hm : m ≤ 35184372088832) :
  Ct 80 #[.slice A n c, .slice B m d] w fun e w' => ∃ A' c', e = .returned (.slice A' (n + m) c') ∧ Row w' w.heap.size 5 A' (n + m) c' ((xs ++ ys).map bv) ∧ Ext w w' := by
 refine ai 10 func80 rfl rfl rfl rfl ?_;intro _ hret;refine aU ?_;refine ag (aF (z := .int .u8 0) Tn.u Kr rfl rfl rfl rfl rfl) rfl ?_;rintro _ w1 ⟨g1, rfl, B1, Vq, ex⟩;have E1 := ex; have R1 : Row w1 w.heap.size 5 (some ⟨g1, 0, none⟩) 0 0 [] := Row.new B1 Vq rfl (by unfold maxLen; omega);refine aU ?_;refine ag (iF rfl rfl bT R1 (HA.ext E1).2 (by rw [List.length_map, HA.1]) aJ Om Om E1.size) rfl ?_;rintro _ _ ⟨_, _, rfl, R2, be, gr, hl⟩;have E2 := E1.trans be;refine aU ?_;refine ag (aX rfl rfl bT R2 (HB.ext E2).2 (by rw [List.length_map, HB.1]) aJ Om Om E2.size) rfl ?_;rintro _ _ ⟨A3, c3, rfl, R3, be, gr, hl⟩;have E3 := E2.trans be;refine aU ?_;refine hret rfl ?_;exact ⟨A3, c3, rfl, R3.cat, E3⟩
theorem fm (A B C : Oa) (n c m d k f : Nat) (xs ys zs : Lb) (w : World) (HA : Bs w A n xs) (hn : n ≤ 1000000) (HB : Bs w B m ys) (hm : m ≤ 1000000) (HC : Bs w C k zs) (hk : k ≤ 1000000) :
  Ct 122 #[.slice A n c, .slice B m d, .slice C k f] w fun e w' => ∃ A' c', e = .returned (.slice A' (n + m + k) c') ∧ Row w' w.heap.size 5 A' (n + m + k) c' ((xs ++ ys ++ zs).map bv) ∧ Ext w w' := by
 refine ai 12 func122 rfl rfl rfl rfl ?_;intro _ hret;refine aU ?_;refine aC func80 rfl (dS A B n c m d xs ys _ HA Om HB Om) ?_;rintro e _ ⟨A1, c1, rfl, R1, ex⟩;replace HC := HC.ext ex;have E1 := ex;refine aU ?_;refine aC func80 rfl (dS A1 C _ c1 k f _ zs _ R1.bs Om HC Om) ?_;rintro e _ ⟨A2, c2, rfl, R2, ex⟩;have E2 := E1.ext ex;refine aU ?_;refine hret rfl ?_;exact ⟨A2, c2, rfl, R2.lower E1.size, E2⟩
theorem mn (x : Nat) (w : World) (hx : x < 18446744073709551616) :
  Ct 158 #[.int .u64 (x : Int)] w fun e w' => ∃ A' c', e = .returned (.slice A' 2 c') ∧ Row w' w.heap.size 5 A' 2 c' ((Wire.be 2 x).map bv) ∧ Ext w w' := by
 refine ai 5 func158 rfl rfl rfl rfl ?_;intro _ hret;refine aU ?_;refine aC func56 rfl (jk 2 x _ Om hx) ?_;rintro e _ ⟨A1, c1, rfl, R1, ex⟩;refine aU ?_;refine hret rfl ?_;exact ⟨A1, c1, rfl, R1, ex⟩
theorem dZ (B : Oa) (m d : Nat) (ys : Lb) (w : World) (HB : Bs w B m ys) (hm : m < 1073741824) :
  Ct 82 #[.slice B m d] w fun e w' => ∃ A' k c', e = .returned (.slice A' k c') ∧ Row w' w.heap.size 5 A' k c' ((Wire.vec ys).map bv) ∧ k = Wire.jK m + m ∧ Ext w w' := by
 refine ai 5 func82 rfl rfl rfl rfl ?_;intro _ hret;refine aU ?_;refine aC func54 rfl (cI B m d ys _ HB hm) ?_;rintro e _ ⟨A1, k1, c1, rfl, R1, hk, ex⟩;refine aU ?_;refine hret rfl ?_;exact ⟨A1, k1, c1, rfl, R1, hk, ex⟩
theorem ua (cs : Array Value) (x : Ctx) (w : World) (H : gP w cs x) (hs : x.Small) :
  Ct 101 #[.agg cs] w fun e w' => ∃ A' k c', e = .returned (.slice A' k c') ∧ Row w' w.heap.size 5 A' k c' ((dw x).map bv) ∧ k ≤ 700 ∧ Ext w w' := by
 have hlen := kZ hs;obtain ⟨A1, A2, A3, n1, c1, n2, c2, n3, c3, rfl, H1, H2, H3⟩ := H;obtain ⟨s1, s2, s3, s4⟩ := hs;have E := Ext.refl w;have Vx := H1.1; have Vy := H2.1; have Vz := H3.1;have z1 := Wire.bE n1; have z2 := Wire.bE n2; have z3 := Wire.bE n3;refine ai 21 func101 rfl rfl rfl rfl ?_;intro _ hret;refine aU ?_;intro w1 g1 (B1 : ao _ _ _ (Fo A1 A2 A3 n1 c1 n2 c2 n3 c3 x.ep)) VA ex;obtain ⟨E,H1,H2,H3⟩ := bU ex E H1 H2 H3;refine aU ?_;refine az Kr 9 rfl ?_; intro VB ex VC;obtain ⟨E,H1,H2,H3,B1⟩ := eQ ex E H1 H2 H3 B1;refine zm [2, 3, 5, 6] ?_;refine bz 0 rfl func163 rfl (mc none 0 0 2 1 [] _ (Bs.nil _ _) Om Om Om) ?_;rintro e _ ⟨A4, c4, rfl, R4, ex⟩;obtain ⟨E,H1,H2,H3,B1⟩ := eQ ex E H1 H2 H3 B1;refine aU ?_;refine bz 1 rfl func163 rfl (mc A4 _ c4 2 1 _ _ R4.bs Om Om Om) ?_;rintro e _ ⟨A5, c5, rfl, R5, ex⟩;obtain ⟨E,H1,H2,H3,B1⟩ := eQ ex E H1 H2 H3 B1;refine aU ?_;refine bz 4 rfl func87 rfl (ir A5 A1 _ c5 n1 c1 _ _ _ R5.bs Om H1 Om) ?_;rintro e _ ⟨A6, k6, c6, rfl, R6, _, ex⟩;obtain ⟨E,H2,H3,B1⟩ := bU ex E H2 H3 B1;refine aU ?_;refine bz 7 rfl func163 rfl (mc A6 k6 c6 8 x.ep _ _ R6.bs Om Om Om) ?_;rintro e _ ⟨A7, c7, rfl, R7, ex⟩;obtain ⟨E,H2,H3,B1⟩ := bU ex E H2 H3 B1;refine zm [8] ?_;refine az Kr 10 rfl ?_; intro VD ex VE;obtain ⟨E,H2,H3,B1,R7⟩ := eQ ex E H2 H3 B1 R7;refine zm [0, 1, 2, 4, 5] ?_;refine fR 3 7 Kr ?_ ?_
 ·skip;refine eW rfl func87 rfl rfl rfl (ir A7 A2 _ c7 n2 c2 _ _ _ R7.bs Om H2 Om) rfl ?_;rintro e w6 ⟨A8, k8, c8, rfl, R8, Vw, ex⟩;obtain ⟨E,H3⟩ := aZ ex E H3;refine aU ?_;refine fR 6 7 Kr ?_ ?_
  ·skip;have Vr := E;refine eW rfl func87 rfl rfl rfl (ir A8 A3 k8 c8 n3 c3 _ _ _ R8.bs Om H3 Om) rfl ?_;rintro e w7 ⟨A9, k9, c9, rfl, R9, Vu, ex⟩;refine aU ?_;replace E := E.ext ex;replace R9 := R9.lower Vr.size;refine aL 7 Kr ?_; refine aQ rfl (aF (z := .int .u8 0) Tn.u Kr rfl rfl rfl rfl rfl) rfl ?_;rintro _ w8 ⟨g8, rfl, D8, Vv, ex⟩;refine ⟨.inr ex, ?_⟩;obtain ⟨E,R9⟩ := aZ ex E R9;refine aL 8 Kr ?_; refine aQ rfl (aX rfl rfl bT R9 (At.jn (vs := [(0 : UInt8)].map bv) (D8.congr (by rfl))) rfl aJ Om Om E.size) rfl ?_;rintro _ w9 ⟨Vs, c10, rfl, Vt, be, gr, hl⟩;refine ⟨.inl rfl, ?_⟩;have E9 := E.trans be; have Vq := Vt.cat;refine zm [9] ?_;refine hret rfl ?_;have HF := Vq.bs;have e : ([] ++ Wire.be 2 1 ++ Wire.be 2 1 ++ Wire.vec x.grp ++ Wire.be 8 x.ep ++ Wire.vec x.tree ++ Wire.vec x.trans ++ [0]) = dw x := by unfold dw; simp
   rw [e] at HF;have hf := HF.1;exact ⟨Vs, _, c10, rfl, Vq.congr rfl (by rw [e]), by omega, E9⟩
  skip;refine aQ rfl (aF (z := .int .u8 0) Tn.u Kr rfl rfl rfl rfl rfl) rfl ?_;rintro _ w8 ⟨g8, rfl, D8, Vv, ex⟩;refine ⟨.inr ex, ?_⟩;obtain ⟨E,H3,R8⟩ := bF ex E H3 R8;have Vr := E;refine bz 6 rfl func87 rfl (ir A8 A3 k8 c8 n3 c3 _ _ _ R8.bs Om H3 Om) ?_;rintro e w7 ⟨A9, k9, c9, rfl, R9, Vu, ex⟩;refine aU ?_;obtain ⟨E,D8⟩ := aZ ex E D8;replace R9 := R9.lower Vr.size;refine aL 8 Kr ?_; refine aQ rfl (aX rfl rfl bT R9 (At.jn (vs := [(0 : UInt8)].map bv) (D8.congr (by rfl))) rfl aJ Om Om E.size) rfl ?_;rintro _ w9 ⟨Vs, c10, rfl, Vt, be, gr, hl⟩;refine ⟨.inl rfl, ?_⟩;have E9 := E.trans be; have Vq := Vt.cat;refine zm [9] ?_;refine hret rfl ?_;have HF := Vq.bs;have e : ([] ++ Wire.be 2 1 ++ Wire.be 2 1 ++ Wire.vec x.grp ++ Wire.be 8 x.ep ++ Wire.vec x.tree ++ Wire.vec x.trans ++ [0]) = dw x := by unfold dw; simp
  rw [e] at HF;have hf := HF.1;exact ⟨Vs, _, c10, rfl, Vq.congr rfl (by rw [e]), by omega, E9⟩
 skip;refine aQ rfl (aF (z := .int .u8 0) Tn.u Kr rfl rfl rfl rfl rfl) rfl ?_;rintro _ w8 ⟨g8, rfl, D8, Vv, ex⟩;refine ⟨.inr ex, ?_⟩;obtain ⟨E,H2,H3,R7⟩ := bU ex E H2 H3 R7;refine bz 3 rfl func87 rfl (ir A7 A2 _ c7 n2 c2 _ _ _ R7.bs Om H2 Om) ?_;rintro e w6 ⟨A8, k8, c8, rfl, R8, Vw, ex⟩;obtain ⟨E,H3,D8⟩ := bF ex E H3 D8;refine aU ?_;have Vr := E;refine bz 6 rfl func87 rfl (ir A8 A3 k8 c8 n3 c3 _ _ _ R8.bs Om H3 Om) ?_;rintro e w7 ⟨A9, k9, c9, rfl, R9, Vu, ex⟩;refine aU ?_;obtain ⟨E,D8⟩ := aZ ex E D8;replace R9 := R9.lower Vr.size;refine aL 8 Kr ?_; refine aQ rfl (aX rfl rfl bT R9 (At.jn (vs := [(0 : UInt8)].map bv) (D8.congr (by rfl))) rfl aJ Om Om E.size) rfl ?_;rintro _ w9 ⟨Vs, c10, rfl, Vt, be, gr, hl⟩;refine ⟨.inl rfl, ?_⟩;have E9 := E.trans be; have Vq := Vt.cat;refine zm [9] ?_;refine hret rfl ?_;have HF := Vq.bs;have e : ([] ++ Wire.be 2 1 ++ Wire.be 2 1 ++ Wire.vec x.grp ++ Wire.be 8 x.ep ++ Wire.vec x.tree ++ Wire.vec x.trans ++ [0]) = dw x := by unfold dw; simp
 rw [e] at HF;have hf := HF.1;exact ⟨Vs, _, c10, rfl, Vq.congr rfl (by rw [e]), by omega, E9⟩
theorem vS (cs : Array Value) (x : Ctx) (w : World) (H : gP w cs x) (hs : x.Small) :
  Ct 101 #[.agg cs] w fun e w' => ∃ A' k c', e = .returned (.slice A' k c') ∧ Bs w' A' k (dw x) ∧ k ≤ 700 ∧ Ext w w' :=
 (ua cs x w H hs).mono fun _ _ ⟨A', k, c', h1, h2, h3, h4⟩ => ⟨A', k, c', h1, h2.bs, h3, h4⟩
theorem jH (cs : Array Value) (x : Ctx) (w : World) (H : gP w cs x) (hs : x.Small) :
  Ct 119 #[.agg cs] w fun e w' => ∃ A' k c', e = .returned (.slice A' k c') ∧ Row w' w.heap.size 5 A' k c' ((dw x).map bv) ∧ k ≤ 700 ∧ Ext w w' := by
 have hlen := kZ hs;obtain ⟨A1, A2, A3, n1, c1, n2, c2, n3, c3, rfl, H1, H2, H3⟩ := H;obtain ⟨s1, s2, s3, s4⟩ := hs;have E := Ext.refl w;have VG := H1.1; have VH := H2.1; have VI := H3.1;have z1 := Wire.bE n1; have z2 := Wire.bE n2; have z3 := Wire.bE n3;refine ai 22 func119 rfl rfl rfl rfl ?_;intro _ hret;refine aU ?_;intro w1 g1 (B1 : ao _ _ _ (Fo A1 A2 A3 n1 c1 n2 c2 n3 c3 x.ep)) VJ ex;obtain ⟨E,H1,H2,H3⟩ := bU ex E H1 H2 H3;refine aU ?_;refine dB Kr 20 rfl ?_; intro Vu ex VK;obtain ⟨E,H1,H2,H3,B1⟩ := eQ ex E H1 H2 H3 B1;have Vv := B1;have X0 := Ext.refl Vu;refine zm [2, 3, 6, 7, 10, 11, 13, 14] ?_;refine dC (fl := [UR 16 19 5 1 ([.int .u8 0])]) rfl ?_;refine kM 0 (some 3) func158 ?_;intro _ ex exb;obtain ⟨E,H1,H2,H3,X0⟩ := eQ ex E H1 H2 H3 X0;refine ⟨_, (mn 1 _ Om), ?_⟩;rintro e _ ⟨A4, c4, rfl, R4, ex⟩;refine ⟨_, rfl, ex, ?_⟩;obtain ⟨E,H1,H2,H3,X0⟩ := eQ ex E H1 H2 H3 X0;refine kM 1 (some 4) func158 ?_;intro _ ex exb;obtain ⟨E,H1,H2,H3,X0,R4⟩ := iJ ex E H1 H2 H3 X0 R4;refine ⟨_, (mn 1 _ Om), ?_⟩;rintro e _ ⟨A5, c5, rfl, R5, ex⟩;refine ⟨_, rfl, ex, ?_⟩;obtain ⟨E,H1,H2,H3,X0,R4⟩ := iJ ex E H1 H2 H3 X0 R4;refine kM 4 (some 7) func82 ?_;intro _ ex exb;obtain ⟨E,H1,H2,H3,X0,R4,R5⟩ := iO ex E H1 H2 H3 X0 R4 R5;refine ⟨_, (dZ A1 n1 c1 _ _ H1 Om), ?_⟩;rintro e _ ⟨A6, k6, c6, rfl, R6, _, ex⟩;refine ⟨_, rfl, ex, ?_⟩;obtain ⟨E,H2,H3,X0,R4,R5⟩ := iJ ex E H2 H3 X0 R4 R5;refine kM 5 (some 8) func122 ?_;intro _ ex exb;obtain ⟨E,H2,H3,X0,R4,R5,R6⟩ := iO ex E H2 H3 X0 R4 R5 R6;refine ⟨_, (fm A4 A5 A6 2 c4 2 c5 k6 c6 _ _ _ _ R4.bs Om R5.bs Om R6.bs Om), ?_⟩;rintro e _ ⟨A7, c7, rfl, R7, ex⟩;refine ⟨_, rfl, ex, ?_⟩;obtain ⟨E,H2,H3,X0⟩ := bU ex E H2 H3 X0;refine kM 8 (some 11) func56 ?_;intro _ ex exb;obtain ⟨E,H2,H3,X0,R7⟩ := eQ ex E H2 H3 X0 R7;refine ⟨_, (jk 8 x.ep _ Om Om), ?_⟩;rintro e _ ⟨A8, c8, rfl, R8, ex⟩;refine ⟨_, rfl, ex, ?_⟩;obtain ⟨E,H2,H3,X0,R7⟩ := eQ ex E H2 H3 X0 R7;refine kM 9 (some 12) func80 ?_;intro _ ex exb;obtain ⟨E,H2,H3,X0,R7,R8⟩ := iJ ex E H2 H3 X0 R7 R8;refine ⟨_, (dS A7 A8 _ c7 8 c8 _ _ _ R7.bs Om R8.bs Om), ?_⟩;rintro e _ ⟨A9, c9, rfl, R9, ex⟩;refine ⟨_, rfl, ex, ?_⟩;obtain ⟨E,H2,H3,X0⟩ := bU ex E H2 H3 X0;refine kM 12 (some 15) func82 ?_;intro _ ex exb;obtain ⟨E,H2,H3,X0,R9⟩ := eQ ex E H2 H3 X0 R9;refine ⟨_, (dZ A2 n2 c2 _ _ H2 Om), ?_⟩;rintro e _ ⟨Vw, Vx, c10, rfl, Vq, _, ex⟩;refine ⟨_, rfl, ex, ?_⟩;obtain ⟨E,H3,X0,R9⟩ := bU ex E H3 X0 R9;refine kM 15 (some 18) func82 ?_;intro _ ex exb;obtain ⟨E,H3,X0,R9,Vq⟩ := eQ ex E H3 X0 R9 Vq;refine ⟨_, (dZ A3 n3 c3 _ _ H3 Om), ?_⟩;rintro e _ ⟨Vy, Vz, c11, rfl, Vs, _, ex⟩;refine ⟨_, rfl, ex, ?_⟩;obtain ⟨E,X0,R9,Vq⟩ := bU ex E X0 R9 Vq;refine ij ⟨(aT (zN rfl underlying23 (z := .int .u8 0) Kr rfl rfl rfl rfl rfl) av), of_decide_eq_true rfl, of_decide_eq_true rfl, (aT (⟨rfl, of_decide_eq_true rfl⟩) av), (aT (aV Kr) av)⟩ Kr ?_;rintro _ _ ex ⟨⟨_, rfl, Vt⟩, _⟩;obtain ⟨E,X0,R9,Vq,Vs⟩ := eQ ex E X0 R9 Vq Vs;refine df 17 Kr ?_;refine Dk rfl func122 rfl rfl rfl (fm Vw Vy _ Vx c10 Vz c11 1 1 _ _ _ _ Vq.bs Om Vs.bs Om (bh (xs := [(0 : UInt8)]) (Vt.congr (by rfl)) rfl) Om) rfl ?_;rintro e _ ⟨VA, VB, rfl, VC, ex⟩;refine ⟨_, rfl, X0.ext ex, ?_⟩;obtain ⟨E,X0,R9⟩ := bF ex E X0 R9;have VD := E;refine df 18 Kr ?_;refine Dk rfl func80 rfl rfl rfl (dS A9 VA _ c9 _ VB _ _ _ R9.bs Om VC.bs Om) rfl ?_;rintro e _ ⟨VE, VF, rfl, Vr, ex⟩;refine ⟨_, rfl, X0.ext ex, ?_⟩;replace E := E.ext ex;replace Vr := Vr.lower VD.size;refine zm [19] ?_;refine dW Kr ?_;refine aU ?_;refine hret rfl ?_;have e : ((Wire.be 2 1 ++ Wire.be 2 1 ++ Wire.vec x.grp) ++ Wire.be 8 x.ep ++ (Wire.vec x.tree ++ Wire.vec x.trans ++ [0])) = dw x := by unfold dw; simp
 rw [e] at Vr;have hf := Vr.bs.1;exact ⟨VE, _, VF, rfl, Vr, by omega, E⟩
end
section
open Go.ChangeShapes Go.WideShapes Go.ChangeAt Go.RowKit
section
variable {H : Type} {enc : TypeId × Value → H} {held : Bool}
theorem Ie {v : Value} {d : DataW H} {p : List MemPlace} (h : DataW.Trod enc Tryz.prog W base spare held 40 v d p) :
  ∃ cs x, v = .agg cs ∧ gP W cs x ∧ x.ep < 18446744073709551616 ∧ x.grp.length ≤ maxLen ∧ x.tree.length ≤ maxLen ∧ x.trans.length ≤ maxLen := by
 obtain ⟨fuel, hf⟩ := h;obtain ⟨Vq, hl, hfs⟩ := trod_struct Tryz.underlying40 hf;have hc : Tryz.prog.cellsOf 40 = 4 := by kernel_rfl
 rw [hc] at hl;have c1 : Tryz.prog.cellsOf 23 = 1 := by kernel_rfl
 have c2 : Tryz.prog.cellsOf 38 = 1 := by kernel_rfl
 obtain ⟨y0, h0⟩ := hfs 0 _ rfl;obtain ⟨y1, h1⟩ := hfs 1 _ rfl;obtain ⟨y2, h2⟩ := hfs 2 _ rfl;obtain ⟨y3, h3⟩ := hfs 3 _ rfl;obtain ⟨A0, n0, k0, g, e0, b0, m0⟩ := iQ h0;obtain ⟨N, e1, m1⟩ := GV h1;obtain ⟨A2, n2, k2, tr, e2, b2, m2⟩ := iQ h2;obtain ⟨A3, n3, k3, ts, e3, b3, m3⟩ := iQ h3;have q0 := zh (i := 0) c1 e0;have q1 := zh (i := 1) c2 e1;have q2 := zh (i := 2) c1 e2;have q3 := zh (i := 3) c1 e3
 have hcs : v.cells.toList = [.slice A0 n0 k0, .int .u64 (N : Int), .slice A2 n2 k2, .slice A3 n3 k3] := by
  apply List.ext_getElem?;intro i
  match i with
  | 0 => exact q0
  | 1 => exact q1
  | 2 => exact q2
  | 3 => exact q3
  | i + 4 => rw [List.getElem?_eq_none Om]; simp
 refine ⟨_, ⟨g, N, tr, ts⟩, Ij hcs (by simp), ⟨A0, A2, A3, n0, k0, n2, k2, n3, k3, rfl, b0, b2, b3⟩, m1, ?_, ?_, ?_⟩
 ·show g.length ≤ _; rw [b0.1]; exact m0
 ·show tr.length ≤ _; rw [b2.1]; exact m2
 show ts.length ≤ _; rw [b3.1]; exact m3
end
variable {H : Type} {enc : TypeId × Value → H} {held : Bool}
theorem qQ {α : Type} {Q : Nat → α → Prop} : ∀ n, (∀ i, i < n → ∃ x, Q i x) → ∃ l : List α, l.length = n ∧ ∀ i (h : i < l.length), Q i l[i]
  | 0, _ => ⟨[], rfl, fun i h => by simp at h⟩
  | n + 1, h => by
    obtain ⟨l, hl, hq⟩ := qQ n (fun i hi => h i Om);obtain ⟨x, hx⟩ := h n Om;refine ⟨l ++ [x], by simp [hl], fun i hi => ?_⟩;by_cases hin : i < l.length
    · rw [List.getElem_append_left hin]; exact hq i hin
    have : i = l.length := by simp at hi; omega
    subst this;simp only [List.getElem_concat_length];rw [hl]; exact hx
end
section
open Go.RowKit Tryz
attribute [local irreducible] Y Ef WL WC WK WQ WM cv WN WF cZ
namespace Wire
def nb (xs : Lb) : Nat := xs.foldl (fun a x => a * 256 + x.toNat) 0
theorem MM (xs : Lb) (x : UInt8) : nb (xs ++ [x]) = nb xs * 256 + x.toNat := by simp [nb]
theorem xf : ∀ (xs : Lb) (a : Nat), xs.foldl (fun a x => a * 256 + x.toNat) a = a * 256 ^ xs.length + nb xs
  | [], a => by simp [nb]
  | x :: xs, a => by have h1 := xf xs (a * 256 + x.toNat);have h2 := xf xs (0 * 256 + x.toNat);unfold nb;rw [List.foldl_cons, List.foldl_cons, h1, h2, List.length_cons, Nat.pow_succ];grind
theorem Eg (x : UInt8) (xs : Lb) : nb (x :: xs) = x.toNat * 256 ^ xs.length + nb xs := by have h := xf xs (0 * 256 + x.toNat);rw [show (0 * 256 + x.toNat) * 256 ^ xs.length = x.toNat * 256 ^ xs.length by rw [Nat.zero_mul, Nat.zero_add]] at h;exact h
theorem uO : ∀ xs : List UInt8, nb xs < 256 ^ xs.length
  | [] => by simp [nb]
  | x :: xs => by have ih := uO xs;have hx := UInt8.toNat_lt x;rw [Eg, List.length_cons, Nat.pow_succ];have : x.toNat * 256 ^ xs.length ≤ 255 * 256 ^ xs.length := Nat.mul_le_mul_right _ Om;omega
theorem fz (h : k < xs.length) : nb (xs.take (k + 1)) = nb (xs.take k) * 256 + (xs.getD k 0).toNat := by rw [List.take_succ_eq_append_getElem h, MM];simp [h]
abbrev St := Except Nat (List UInt8)
def cy : St → Nat
 | .ok _ => 0
 | .error c => c
def tk (xs : Lb) (e : Nat) (z : Int) : List UInt8 × Bool × List UInt8 × Nat :=
 if e ≠ 0 then ([], false, xs, e) else if z < 0 then ([], false, xs, 1) else if (xs.length : Int) < z then ([], false, xs, 4) else (xs.take z.toNat, true, xs.drop z.toNat, 0)
def jC : List UInt8 → Except Nat (Nat × List UInt8)
  | [] => .error 4
  | b :: r =>
    if 192 ≤ b.toNat then .error 3
    else
      let s := if b.toNat < 64 then 1 else if b.toNat < 128 then 2 else 4
      if r.length < s - 1 then .error 4
      else
        let n := nb (UInt8.ofNat (b.toNat % 64) :: r.take (s - 1))
        if jK n = s then .ok (n, r.drop (s - 1)) else .error 3
def jF (xs : Lb) : Except Nat (List UInt8 × List UInt8) :=
 match jC xs with
 | .error c => .error c
 | .ok (n, r) => if r.length < n then .error 4 else .ok (r.take n, r.drop n)
def Qc (k : Nat) (xs : Lb) : Except Nat (Nat × List UInt8) := if xs.length < k then .error 4 else .ok (nb (xs.take k), xs.drop k)
def pB : St → (Nat × Bool) × St
  | .error c => ((0, false), .error c)
  | .ok xs => match jC xs with
    | .error c => ((0, false), .error c)
    | .ok (n, r) => ((n, true), .ok r)
def dh : St → List UInt8 × St
  | .error c => ([], .error c)
  | .ok xs => match jF xs with
    | .error c => ([], .error c)
    | .ok (v, r) => (v, .ok r)
def eB (k : Nat) : St → Nat × St
  | .error c => (0, .error c)
  | .ok xs => match Qc k xs with
    | .error c => (0, .error c)
    | .ok (v, r) => (v, .ok r)
theorem kQ (k : Nat) (xs : Lb) : eB k (.ok xs) = if xs.length < k then (0, .error 4) else (nb (xs.take k), .ok (xs.drop k)) := by
 show (match Qc k xs with
  | .error c => ((0, .error c) : Nat × St)
  | .ok (v, r) => (v, .ok r)) = _
 unfold Qc;grind
def eY : St → Nat
 | .error c => c
 | .ok [] => 0
 | .ok (_ :: _) => 5
end Wire
open Wire
def PQ (A : Oa) (n c e : Nat) : Array Value := #[.slice A n c, .int .u8 (e : Int)]
def Rd (N : Nat) (S : List Nat) (w : World) (g : Nat) (xs : Lb) (e : Nat) : Prop := ∃ A n c, ao w g 263 (PQ A n c e) ∧ n ≤ c ∧ g ∈ S ∧ Kp N S (fun w => Bs w A n xs) w
def Rs (N : Nat) (S : List Nat) (w : World) (g : Nat) : St → Prop
 | .ok xs => Rd N S w g xs 0
 | .error c => c ≠ 0 ∧ c < 256 ∧ ∃ xs, Rd N S w g xs c
section
variable {e : Nat} {s : St}
theorem Rd.lt (h : Rd N S w g xs e) : g < w.heap.size := by obtain ⟨A, n, c, B, _⟩ := h; exact B.lt
theorem Rd.mem (h : Rd N S w g xs e) : g ∈ S := by obtain ⟨A, n, c, _, _, m, _⟩ := h; exact m
theorem Rd.ext (h : Rd N S w g xs e) (E : Ext w w') : Rd N S w' g xs e := by obtain ⟨A, n, c, B, hc, m, K⟩ := h; exact ⟨A, n, c, B.ext E, hc, m, K.ext E⟩
theorem Rd.grow (h : Rd N S w g xs e) (E : Ext w w') (hk : w.heap.size ≤ k) : Rd N (k :: S) w' g xs e := by obtain ⟨A, n, c, B, hc, m, K⟩ := h; exact ⟨A, n, c, B.ext E, hc, List.mem_cons_of_mem _ m, K.grow E hk⟩
theorem Rd.bk (h : Rd N S w g xs e) (C : aE S' w w') (hs : ∀ k ∈ S', k ∈ S := by first | (simp; done) | (simp; assumption)) (hg : g ∉ S' := by first | (simp; done) | (simp; omega)) : Rd N S w' g xs e := by obtain ⟨A, n, c, B, hc, m, K⟩ := h; exact ⟨A, n, c, B.bk C hg, hc, m, K.bk C hs⟩
theorem Rd.mono (h : Rd N S w g xs e) (hs : ∀ k ∈ S', k ∈ S) (hg : g ∈ S') : Rd N S' w g xs e := by obtain ⟨A, n, c, B, hc, m, K⟩ := h; exact ⟨A, n, c, B, hc, hg, K.mono hs⟩
theorem Rs.ext (h : Rs N S w g s) (E : Ext w w') : Rs N S w' g s := by
 cases s with
 | ok xs => exact Rd.ext h E
 | error c => obtain ⟨h1, h2, xs, h⟩ := h; exact ⟨h1, h2, xs, h.ext E⟩
theorem Rs.grow (h : Rs N S w g s) (E : Ext w w') (hk : w.heap.size ≤ k) : Rs N (k :: S) w' g s := by
 cases s with
 | ok xs => exact Rd.grow h E hk
 | error c => obtain ⟨h1, h2, xs, h⟩ := h; exact ⟨h1, h2, xs, h.grow E hk⟩
theorem Rs.bk (h : Rs N S w g s) (C : aE S' w w') (hs : ∀ k ∈ S', k ∈ S := by first | (simp; done) | (simp; assumption)) (hg : g ∉ S' := by first | (simp; done) | (simp; omega)) : Rs N S w' g s := by
 cases s with
 | ok xs => exact Rd.bk h C hs hg
 | error c => obtain ⟨h1, h2, xs, h⟩ := h; exact ⟨h1, h2, xs, h.bk C hs hg⟩
theorem Rs.mono (h : Rs N S w g s) (hs : ∀ k ∈ S', k ∈ S) (hg : g ∈ S') : Rs N S' w g s := by
 cases s with
 | ok xs => exact Rd.mono h hs hg
 | error c => obtain ⟨h1, h2, xs, h⟩ := h; exact ⟨h1, h2, xs, h.mono hs hg⟩
theorem Rs.lt (h : Rs N S w g s) : g < w.heap.size := by
 cases s with
 | ok xs => exact Rd.lt h
 | error c => obtain ⟨h1, h2, xs, h⟩ := h; exact h.lt
theorem Rs.mem (h : Rs N S w g s) : g ∈ S := by
 cases s with
 | ok xs => exact Rd.mem h
 | error c => obtain ⟨h1, h2, xs, h⟩ := h; exact h.mem
theorem Rs.rd (h : Rs N S w g s) : ∃ xs, Rd N S w g xs (cy s) ∧ cy s < 256 ∧ (s = .ok xs ∨ (cy s ≠ 0 ∧ s = .error (cy s))) := by
 cases s with
 | ok xs => exact ⟨xs, h, by show 0 < 256; omega, .inl rfl⟩
 | error c => obtain ⟨h1, h2, xs, h⟩ := h; exact ⟨xs, h, h2, .inr ⟨h1, rfl⟩⟩
end
theorem Fb.kk (h : Fb base w A n xs) (hS : ∀ g ∈ S, g < base) : Kp w.heap.size S (fun w => Fb base w A n xs) w := (h.kp hS).map fun _ hb => ⟨hb, h.2⟩
theorem yd (A : Oa) (n c e : Nat) : (PQ A n c e).size = 2 := rfl
theorem Nl (A : Oa) (n c e e' : Nat) (hz : z = (e' : Int)) : (PQ A n c e).setIfInBounds 1 (.int .u8 z) = PQ A n c e' := by subst hz; rfl
theorem NC (A A' : Oa) (n c n' c' e : Nat) : (PQ A n c e).setIfInBounds 0 (.slice A' n' c') = PQ A' n' c' e := rfl
theorem tV (A : Oa) (n c : Nat) (xs : Lb) (w : World) (hc : n ≤ c) (K : Kp N S (fun w => Bs w A n xs) w) :
  Ct 172 #[.slice A n c] w fun e w' => ∃ g, e = .returned (.pointer (some ⟨g, 0, none⟩)) ∧ w.heap.size ≤ g ∧ Rs N (g :: S) w' g (.ok xs) ∧ Ext w w' := by
 refine ai 6 func172 rfl rfl rfl rfl ?_;intro _ hret;refine au 8 ?_;refine al (ar rfl (cells := PQ A n c 0) Kr) ?_;refine aU ?_;intro _ g1 B1 Vq ex;refine aU ?_;refine hret rfl ?_;exact ⟨g1, rfl, Vq, ⟨A, n, c, B1, hc, List.mem_cons_self, K.grow ex Vq⟩, ex⟩
theorem j8 (c : Nat) (z : Int) (hz : z = (c : Int)) (w : World) (H : Rd N S w g xs 0) :
  Ct 224 #[.pointer (some ⟨g, 0, none⟩), .int .u8 z] w fun e w' => e = .returned (.tuple #[]) ∧ Rd N S w' g xs c ∧ aE [g] w w' := by
 obtain ⟨A, n, d, B, hd, m, K⟩ := H;refine gj 13 func224 rfl rfl rfl rfl ?_;intro _ hret;refine au 15 ?_;refine ag (aq rfl rfl rfl Kr B (by rw [yd]; omega)) rfl ?_;rintro _ _ ⟨rfl, D, cg⟩;have ex := aE.one cg;rw [Nl A n d 0 c hz] at D; replace K := K.bk ex (by simpa using m);refine aU ?_;refine hret (.inr rfl) ?_;exact ⟨rfl, ⟨A, n, d, D, hd, m, K⟩, ex⟩
theorem jZ {e : Nat} (z : Int) (w : World) (he : e < 256) (H : Rd N S w g xs e) :
  Ct 223 #[.pointer (some ⟨g, 0, none⟩), .int .i64 z] w fun r w' => ∃ A n c, r = .returned (.tuple #[.slice A n c, .bool (tk xs e z).2.1]) ∧ n ≤ c ∧ Kp N S (fun w => Bs w A n (tk xs e z).1) w' ∧ Rd N S w' g (tk xs e z).2.2.1 (tk xs e z).2.2.2 ∧ aE [g] w w' := by
 have H0 := H;obtain ⟨A, n, d, B, hd, m, K⟩ := H;have hxl : xs.length = n := K.out.1;refine bL 48 func223 rfl rfl rfl rfl ?_;intro _ hret;refine au 11 ?_;refine al (Y.as (Jh rfl rfl Tn.u) (show Value.bool _ = .bool false from rfl)) ?_;refine au 5 ?_;refine aG 10 rfl rfl (gO rfl rfl) rfl (fun h1 => ?_) (fun h1 => ?_)
 ·refine au 4 ?_;refine bX rfl rfl ?_;refine aU ?_;refine hret rfl rfl ?_;have Vq := K.1;have ht : tk xs e z = ([], false, xs, e) := by unfold tk; rw [if_pos Om]
  rw [ht];exact ⟨none, 0, 0, rfl, Nat.le_refl _, Kp.nil _ _ Vq, H0, aE.refl _ _⟩
 refine au 4 ?_;refine bg rfl rfl ?_;obtain rfl : e = 0 := by omega
 refine au 3 ?_;refine bf (eX rfl rfl) rfl (fun h2 => ?_) (fun h2 => ?_)
 ·refine au 3 ?_;refine bX rfl rfl ?_;refine aU ?_;refine aC func224 rfl (j8 1 1 rfl _ H0) ?_;rintro e w1 ⟨rfl, H1, ex⟩;refine aU ?_;refine hret rfl rfl ?_;have Vq := Nat.le_trans K.1 ex.size;have ht : tk xs 0 z = ([], false, xs, 1) := by unfold tk; rw [if_neg Om, if_pos h2]
  rw [ht];exact ⟨none, 0, 0, rfl, Nat.le_refl _, Kp.nil _ _ Vq, H1, ex⟩
 refine au 3 ?_;refine bg rfl rfl ?_;refine au 8 ?_;refine bf (iY rfl rfl) rfl (fun h3 => ?_) (fun h3 => ?_)
 ·refine au 3 ?_;refine bX rfl rfl ?_;refine aU ?_;refine aC func224 rfl (j8 4 4 rfl _ H0) ?_;rintro e w1 ⟨rfl, H1, ex⟩;refine aU ?_;refine hret rfl rfl ?_;have Vq := Nat.le_trans K.1 ex.size;have ht : tk xs 0 z = ([], false, xs, 4) := by unfold tk; rw [if_neg Om, if_neg h2, if_pos Om]
  rw [ht];exact ⟨none, 0, 0, rfl, Nat.le_refl _, Kp.nil _ _ Vq, H1, ex⟩
 refine au 3 ?_;refine bg rfl rfl ?_;obtain ⟨k, rfl⟩ : ∃ k : Nat, z = k := Int.eq_ofNat_of_zero_le Om;have hkn : k ≤ n := by omega
 refine au 10 ?_;refine al (lV (s := 1) rfl rfl Tn.u Kr (j := k) rfl Om) ?_;refine au 11 ?_;refine al (pH (s := 1) rfl rfl Tn.u Kr (j := k) rfl Om) ?_;refine au 2 ?_;refine ag (aq rfl rfl rfl Kr B (by rw [yd]; omega)) rfl ?_;rintro _ w1 ⟨rfl, D, cg⟩;have ex := aE.one cg;rw [NC] at D; replace K := K.bk ex (by simpa using m);refine aU ?_;refine hret rfl rfl ?_;have ht : tk xs 0 (k : Int) = (xs.take k, true, xs.drop k, 0) := by unfold tk; grind
 rw [ht];exact ⟨A, k, d, rfl, by omega, K.map fun _ h => h.take hkn, ⟨_, _, _, D, by omega, m, K.map fun _ h => h.lE hkn hd⟩, ex⟩
theorem Hz (h : q < 72057594037927936) : IntKind.u64.wrap ((q : Int) * 2 ^ min (8 : Int).toNat IntKind.u64.bits) = ((q * 256 : Nat) : Int) := by have e : min (8 : Int).toNat IntKind.u64.bits = 8 := rfl;rw [e];exact IntWalk.u64_in _ ⟨by omega, by omega⟩
theorem BC (h : x < 256) : (q * 256 ||| x) = q * 256 + x := by rw [Nat.mul_comm, show 256 = 2 ^ 8 from rfl, Nat.two_pow_add_eq_or_of_lt Om]
theorem sR (A : Oa) (n c : Nat) (xs : Lb) (w : World) (HA : Bs w A n xs) (hn : n ≤ 8) :
  Ct 229 #[.slice A n c] w fun e w' => e = .returned (.int .u64 ((nb xs : Nat) : Int)) ∧ Ext w w' := by
 have hxl := HA.1;refine ai 19 func229 rfl rfl rfl rfl ?_;intro _ hret;refine aU ?_;refine aD (fun n' L wr => ∃ (k : Nat), L = [(3, .int .u64 ((nb (xs.take k) : Nat) : Int)), (6, .slice A n c), (7, .int .i64 (n : Int)), (8, .int .i64 (k : Int))] ∧ n' = n - k ∧ (k ≤ n ∧ Ext w wr)) _ _ ⟨0, rfl, rfl, by omega, Ext.refl _⟩ Ls ?_;rintro _ n' L wr ⟨k, rfl, rfl, _, E⟩ Vq;refine aU ?_;refine ak rfl (fun Vr => ?_) (fun Vr => ?_)
 ·have hkn : k < n := by omega
  obtain ⟨b, off, rfl, _, hc⟩ := (HA.ext E).get hkn;have Vs := UInt8.toNat_lt (xs.getD k 0);have hlt := uO (xs.take k);have hle : 256 ^ (xs.take k).length ≤ 256 ^ 7 := Nat.pow_le_pow_right Om (by grind);have Vt : nb (xs.take k) < 72057594037927936 := Nat.lt_of_lt_of_le hlt hle;have hs := fz (xs := xs) (k := k) Om;refine au 7 ?_;refine al (af rfl Tn.u rfl hc) ?_;refine au 5 ?_;refine al (gd rfl rfl Om (Hz Vt)) ?_;refine au 2 ?_;refine al (jN rfl rfl (by rw [(cD Om Om).2.1, BC Vs])) ?_;refine au 8 ?_;refine ae ?_;refine Vq _ _ ⟨k + 1, rfl, rfl, by omega, E⟩ Om Ls
 refine aU ?_;refine hret rfl ?_;obtain rfl : k = n := by omega
 rw [List.take_of_length_le Om];exact ⟨rfl, E⟩
theorem LI {e : Nat} : (tk xs e (k : Int)).1.length ≤ k := by unfold tk;grind
theorem PS {s : St} (k : Nat) (h : s = .ok xs ∨ (cy s ≠ 0 ∧ s = .error (cy s))) (he : cy s < 256) :
  nb (tk xs (cy s) (k : Int)).1 = (eB k s).1 ∧ ∀ N S w g, Rd N S w g (tk xs (cy s) (k : Int)).2.2.1 (tk xs (cy s) (k : Int)).2.2.2 → Rs N S w g (eB k s).2 := by
 rcases h with rfl | ⟨h0, h1⟩
 ·show nb (tk xs 0 (k : Int)).1 = _ ∧ ∀ N S w g, Rd N S w g (tk xs 0 (k : Int)).2.2.1 (tk xs 0 (k : Int)).2.2.2 → _;rw [kQ];unfold tk;rw [if_neg Om, if_neg Om];by_cases hl : xs.length < k
  ·rw [if_pos Om, if_pos hl];exact ⟨rfl, fun N S w g h => ⟨by omega, by omega, _, h⟩⟩
  rw [if_neg Om, if_neg hl];exact ⟨rfl, fun N S w g h => h⟩
 generalize cy s = c at *
 subst h1;have ht : tk xs c (k : Int) = ([], false, xs, c) := by unfold tk; rw [if_pos h0]
 rw [ht];exact ⟨rfl, fun N S w g h => ⟨h0, he, _, h⟩⟩
theorem GS {s : St} (k : Nat) (z : Int) (hz : z = (k : Int)) (w : World) (hk : k = 1 ∨ k = 2 ∨ k = 4 ∨ k = 8) (H0 : Rs N S w g s) :
  Ct 182 #[.pointer (some ⟨g, 0, none⟩), .int .i64 z] w fun e w' => e = .returned (.int .u64 (((eB k s).1 : Nat) : Int)) ∧ Rs N S w' g (eB k s).2 ∧ aE [g] w w' := by
 subst hz;obtain ⟨xs, H, he, hs⟩ := H0.rd;have Vq : k ≤ 8 := by omega
 have F := aE.refl [g] w;obtain ⟨q1, q2⟩ := PS k hs he;refine ai 18 func182 rfl rfl rfl rfl ?_;intro _ hret;refine au 9 ?_;refine aC func192 rfl (DL k _) ?_;rintro e _ ⟨rfl, ex⟩;refine au 1 ?_;obtain ⟨H,F⟩ := aZ ex H F;rw [decide_eq_true hk];refine al (nr rfl) ?_;refine au 2 ?_;refine bg rfl rfl ?_;refine au 6 ?_;refine aC func223 rfl (jZ (k : Int) _ he H) ?_;rintro e _ ⟨A2, n2, c2, rfl, _, K2, H2, ex⟩;replace F := F.bk ex
 have Vr : n2 ≤ k := (K2.out.1 ▸ LI)
 refine au 11 ?_;refine aC func229 rfl (sR A2 n2 c2 _ _ K2.out Om) ?_;rintro e _ ⟨rfl, ex⟩;refine au 1 ?_;obtain ⟨F,H2⟩ := aZ ex F H2;rw [q1];refine au 4 ?_;refine hret rfl ?_;exact ⟨rfl, q2 _ _ _ _ H2, F⟩
theorem rJ (k : Nat) (s : St) : (eB k s).1 < 256 ^ k := by
  have hp := Nat.pow_pos (n := k) (show 0 < 256 by omega)
  cases s with
  | error c => exact hp
  | ok xs =>
    rw [kQ]
    split
    · exact hp
    have := uO (xs.take k)
    grind
theorem nY {s : St} (w : World) (H0 : Rs N S w g s) :
  Ct 170 #[.pointer (some ⟨g, 0, none⟩)] w fun e w' => e = .returned (.int .u8 ((cy s : Nat) : Int)) ∧ Ext w w' := by
 obtain ⟨xs, H, he, hs⟩ := H0.rd;obtain ⟨A, n, d, B, hd, m, K⟩ := H;refine ai 9 func170 rfl rfl rfl rfl ?_;intro _ hret;refine au 9 ?_;refine al (Y.as (Jh rfl rfl Tn.u) (show Value.bool _ = .bool false from rfl)) ?_;refine au 2 ?_;refine bg rfl rfl ?_;refine aU ?_;refine hret rfl ?_;exact ⟨rfl, Ext.refl _⟩
theorem IJ {s : St} (w : World) (H : Rs N S w g s) :
  Ct 173 #[.pointer (some ⟨g, 0, none⟩)] w fun e w' => e = .returned (.int .u8 ((eY s : Nat) : Int)) ∧ Ext w w' := by
 have E := Ext.refl w;refine ai 15 func173 rfl rfl rfl rfl ?_;intro _ hret;refine aU ?_;refine aC func170 rfl (nY _ H) ?_;rintro e _ ⟨rfl, ex⟩;obtain ⟨H,E⟩ := aZ ex H E;refine aU ?_;refine ak rfl (fun Vq => ?_) (fun Vq => ?_)
 ·have hs : eY s = cy s := by cases s with
   | ok xs => exact absurd rfl Vq
   | error c => rfl
  refine aU ?_;refine hret rfl ?_;exact ⟨by rw [hs], E⟩
 obtain ⟨xs, rfl⟩ : ∃ xs, s = .ok xs := by
  cases s with
  | ok xs => grind
  | error c => exact absurd H.1 (fun h => h (by have h2 : ¬ ((c : Nat) : Int) ≠ 0 := Vq; omega))
 obtain ⟨A, n, d, B, hd, m, K⟩ := H;have hl := K.out.1;refine aU ?_;refine ak rfl (fun Vr => ?_) (fun Vr => ?_)
 ·refine aU ?_;refine hret rfl ?_
  exact ⟨by cases xs with
   | nil => grind
   | cons x xs => rfl, E⟩
 refine aU ?_;refine hret rfl ?_
 exact ⟨by cases xs with
  | nil => rfl
  | cons x xs => grind, E⟩
theorem FV {e : Nat} (z : Int) (w : World) (he : e < 256) (hz : z ≤ 35184372088832) (H : Rd N S w g xs e) :
  Ct 222 #[.pointer (some ⟨g, 0, none⟩), .int .i64 z] w fun r w' => ∃ A n c, r = .returned (.slice A n c) ∧ n ≤ c ∧ Fb w.heap.size w' A n (tk xs e z).1 ∧ Rd N S w' g (tk xs e z).2.2.1 (tk xs e z).2.2.2 ∧ aE [g] w w' := by
 have F := aE.refl [g] w;refine ai 15 func222 rfl rfl rfl rfl ?_;intro _ hret;refine aU ?_;refine aC func223 rfl (jZ z _ he H) ?_;rintro e _ ⟨A1, n1, c1, rfl, _, K1, H1, ex⟩;replace F := F.bk ex;refine au 11 ?_
 have Vr : n1 ≤ 35184372088832 := by
  have h := K1.out.1
  have : (tk xs e z).1.length ≤ z.toNat := by unfold tk;grind
  omega
 have Vs := F.size;refine aC func100 rfl (xz A1 n1 c1 _ _ K1.out Vr) ?_;rintro e _ ⟨A2, c2, rfl, Vq, Vt, Vu, ex⟩;obtain ⟨F,H1⟩ := aZ ex F H1;refine aU ?_;refine hret rfl ?_;exact ⟨A2, n1, c2, rfl, Vq, ⟨Vt, fun _ b o h => Nat.le_trans Vs (Vu b o h)⟩, H1, F⟩
end
open Go.RowKit Tryz
attribute [local irreducible] Y Ef WL WC WK WQ WM cv WN WF cZ
open Wire
namespace Wire
theorem tM (xs : Lb) (k : Nat) (hz : z = (k : Int)) : tk xs 0 z = if xs.length < k then ([], false, xs, 4) else (xs.take k, true, xs.drop k, 0) := by subst hz;unfold tk;grind
theorem Ry {s : St} (h : s = .ok xs ∨ (cy s ≠ 0 ∧ s = .error (cy s))) (he : cy s < 256) (hn : (tk xs (cy s) 1).2.1 = false) :
  ∃ c, pB s = ((0, false), .error c) ∧ (tk xs (cy s) 1).2.2.2 = c ∧ c ≠ 0 ∧ c < 256 := by
 rcases h with rfl | ⟨h0, h1⟩
 ·have e : tk xs (cy (.ok xs)) 1 = tk xs 0 1 := rfl;rw [e, tM xs 1 (z := 1) rfl] at hn ⊢
  cases xs with
  | nil => exact ⟨4, rfl, rfl, by omega, by omega⟩
  | cons b r => grind
 generalize cy s = c at *
 subst h1;exact ⟨c, rfl, by unfold tk; rw [if_pos h0], h0, he⟩
theorem Dr {s : St} (h : s = .ok xs ∨ (cy s ≠ 0 ∧ s = .error (cy s))) (hn : (tk xs (cy s) 1).2.1 = true) :
  ∃ b r, s = .ok (b :: r) ∧ tk xs (cy s) 1 = ([b], true, r, 0) := by
 rcases h with rfl | ⟨h0, h1⟩
 ·have e : tk xs (cy (.ok xs)) 1 = tk xs 0 1 := rfl;rw [e, tM xs 1 (z := 1) rfl] at hn ⊢
  cases xs with
  | nil => grind
  | cons b r => grind
 have : tk xs (cy s) 1 = ([], false, xs, cy s) := by unfold tk; rw [if_pos h0]
 grind
theorem uU (b : UInt8) (r : Lb) : jC (b :: r) = if 192 ≤ b.toNat then .error 3 else
   let s := if b.toNat < 64 then 1 else if b.toNat < 128 then 2 else 4
   if r.length < s - 1 then .error 4
   else
    let n := nb (UInt8.ofNat (b.toNat % 64) :: r.take (s - 1))
    if jK n = s then .ok (n, r.drop (s - 1)) else .error 3 := rfl
theorem lK {b : UInt8} (h : 192 ≤ b.toNat) : jC (b :: r) = .error 3 := by rw [uU, if_pos h]
theorem oO {b : UInt8} (h : ¬ 192 ≤ b.toNat) (hs : s = 2 ^ (b.toNat / 64)) : jC (b :: r) = if r.length < s - 1 then .error 4 else if jK (nb (UInt8.ofNat (b.toNat % 64) :: r.take (s - 1))) = s then .ok (nb (UInt8.ofNat (b.toNat % 64) :: r.take (s - 1)), r.drop (s - 1)) else .error 3 := by
 have e : (if b.toNat < 64 then 1 else if b.toNat < 128 then 2 else 4) = s := by
  rw [hs];by_cases h1 : b.toNat < 64
  ·rw [if_pos h1, show b.toNat / 64 = 0 by omega]
  rw [if_neg h1];by_cases h2 : b.toNat < 128
  ·rw [if_pos h2, show b.toNat / 64 = 1 by omega]
  rw [if_neg h2, show b.toNat / 64 = 2 by omega]
 rw [uU, if_neg h];simp only [e]
theorem mo (xs : Lb) : pB (.ok xs) = match jC xs with
  | .error c => ((0, false), .error c)
  | .ok (n, r) => ((n, true), .ok r) := rfl
theorem Rx : ∀ x : Fin 256, bits .and .u8 ((x.val : Nat) : Int) 63 = ((x.val % 64 : Nat) : Int) := by decide +kernel
theorem pS {b : UInt8} (h : t.length ≤ 3) : nb (UInt8.ofNat (b.toNat % 64) :: t) < 1073741824 := by
 have hx : (UInt8.ofNat (b.toNat % 64)).toNat = b.toNat % 64 := by rw [UInt8.toNat_ofNat']; omega
 have hl := uO t;rw [Eg, hx]
 match t, h with
 | [], _ => grind
 | [x], _ => grind
 | [x, y], _ => simp at hl ⊢; omega
 | [x, y, z], _ => simp at hl ⊢; omega
 | x :: y :: z :: u :: t, h => simp at h
end Wire
theorem yN {s : St} (w : World) (H0 : Rs N S w g s) :
  Ct 221 #[.pointer (some ⟨g, 0, none⟩)] w fun e w' => e = .returned (.tuple #[.int .i64 (((pB s).1.1 : Nat) : Int), .bool (pB s).1.2]) ∧ Rs N S w' g (pB s).2 ∧ aE [g] w w' := by
 obtain ⟨xs, H, he, hs⟩ := H0.rd;have hgS := H.mem;have F := aE.refl [g] w;refine bL 56 func221 rfl rfl rfl rfl ?_;intro _ hret;refine aU ?_;refine fY 0 (fun n' L wr => ∃ (j sz b1 o1 c1 : Nat) (b : UInt8) (r : Lb), L = [(0, .pointer (some ⟨g, 0, none⟩)), (4, .slice (some ⟨b1, o1, none⟩) 1 c1), (6, .int .i64 (sz : Int)), (7, .int .u8 (j : Int))] ∧ n' = 1 + j ∧ (s = .ok (b :: r) ∧ j ≤ b.toNat / 64 ∧ sz = 2 ^ (b.toNat / 64 - j) ∧ aE [g] w wr ∧ Rd N S wr g r 0 ∧ Kp N S (fun w => Bs w (some ⟨b1, o1, none⟩) 1 [b]) wr)) rfl ?_ ?_
 ·rintro G n' L wr ⟨j, sz, b1, o1, c1, b, r, rfl, rfl, rfl, _, hsz, F, H1, K1⟩ Vr;have Vv := UInt8.toNat_lt b;have Vw : sz ≤ 8 := by rw [hsz]; exact Nat.pow_le_pow_right (n := 2) Om (show b.toNat / 64 - j ≤ 3 by omega)
  have Vx : 1 ≤ sz := by grind
  refine aU ?_;refine ak rfl (fun Vy => ?_) (fun Vy => ?_)
  ·have h2 : 2 ^ (b.toNat / 64 - (j - 1)) = sz * 2 := by rw [hsz, ← Nat.pow_succ]; congr 1; omega
   refine au 10 ?_;refine al (fI rfl rfl (IntWalk.u8_in _ ⟨by omega, by omega⟩)) ?_;refine aU ?_;refine cz ?_;refine Vr _ _ ⟨j - 1, sz * 2, b1, o1, c1, b, r, rfl, rfl, rfl, by omega, by rw [h2], F, H1, K1⟩ Om Ls
  obtain rfl : j = 0 := by omega
  rw [Nat.sub_zero] at hsz
  have hbig : 4 < sz ↔ 192 ≤ b.toNat := by rw [hsz];rcases (show b.toNat / 64 = 0 ∨ b.toNat / 64 = 1 ∨ b.toNat / 64 = 2 ∨ b.toNat / 64 = 3 by omega) with h | h | h | h <;> rw [h] <;> omega
  refine aU ?_;refine ak rfl (fun Vz => ?_) (fun Vz => ?_)
  ·refine aU ?_;refine aC func224 rfl (j8 3 3 rfl _ H1) ?_;rintro e _ ⟨rfl, H2, ex⟩;replace F := F.bk ex;refine aU ?_;refine bW ?_;refine hret rfl rfl ?_;have e1 : pB (.ok (b :: r)) = ((0, false), .error 3) := by rw [mo, lK (hbig.1 Om)]
   rw [e1];exact ⟨rfl, ⟨by omega, by omega, _, H2⟩, F⟩
  have hsm : ¬ 192 ≤ b.toNat := fun h => by omega
  have hpl := oO (r := r) hsm hsz;refine aU ?_;refine aC func223 rfl (jZ ((sz : Int) - 1) _ Om H1) ?_;rintro e w3 ⟨A3, n3, _, rfl, _, K3, H3, ex⟩;refine au 1 ?_;obtain ⟨F,K1⟩ := iz ex F K1;rw [tM r (sz - 1) (show ((sz : Int) - 1) = ((sz - 1 : Nat) : Int) by omega)] at K3 H3 ⊢;refine aU ?_;refine bB rfl (fun VA => ?_) (fun VA => ?_)
  ·refine aU ?_;refine bW ?_;refine hret rfl rfl ?_;have hshort : r.length < sz - 1 := Classical.byContradiction fun h => by grind
   rw [if_pos hshort] at H3 hpl;have e1 : pB (.ok (b :: r)) = ((0, false), .error 4) := by rw [mo, hpl]
   rw [e1];exact ⟨rfl, ⟨by omega, by omega, _, H3⟩, F⟩
  have hlong : ¬ r.length < sz - 1 := fun h => by grind
  rw [if_neg hlong] at H3 K3 hpl;replace K3 : Kp N S (fun w => Bs w A3 n3 (r.take (sz - 1))) w3 := K3;replace H3 : Rd N S w3 g (r.drop (sz - 1)) 0 := H3;have VG : n3 = sz - 1 := by rw [← K3.out.1, List.length_take]; omega
  obtain ⟨VH, VI, Vs, _, Vq⟩ := K1.out.get (k := 0) Om;injection Vs with Vs
  injection Vs with VB VC _
  subst VB; subst VC;have hnb := pS (b := b) (t := r.take (sz - 1)) (by grind);refine au 5 ?_;refine al (aB rfl rfl Tn.u Kr (j := 0) rfl Om) ?_;refine al (af rfl Tn.u rfl Vq) ?_;refine al (cV rfl rfl (Rx ⟨b.toNat, Vv⟩)) ?_;refine ag (aF (z := .int .u8 0) Tn.u Kr rfl rfl rfl rfl rfl) rfl ?_;rintro _ w4 ⟨g4, rfl, B4, VD, ex⟩;have x4 := ex; have R4 : Row w4 w3.heap.size 5 (some ⟨g4, 0, none⟩) 1 1 ([UInt8.ofNat (b.toNat % 64)].map bv) := Row.new (cs := #[.int .u8 ((b.toNat % 64 : Nat) : Int)]) B4 VD rfl (by show 1 ≤ maxLen; unfold maxLen; omega) |>.congr rfl (by simp [bv, UInt8.toNat_ofNat']; omega)
  refine aU ?_;refine ag (aX rfl rfl bT R4 (K3.ext x4).out.2 (by rw [List.length_map, K3.out.1]) aJ Om Om x4.size) rfl ?_;rintro _ _ ⟨A5, c5, rfl, R5, be, _, _⟩;have ex := x4.trans be; have S5 := R5.cat.bs;obtain ⟨F,H3⟩ := aZ ex F H3;refine aC func229 rfl (sR A5 (1 + n3) c5 _ _ S5 Om) ?_;rintro e _ ⟨rfl, ex⟩;obtain ⟨F,H3⟩ := aZ ex F H3;refine au 1 ?_;refine al (bo rfl Tn.u Tn.u (bj Om (by grind))) ?_;refine au 7 ?_;simp only [List.singleton_append];refine aC func249 rfl (qF _ _ hnb) ?_;rintro e _ ⟨rfl, ex⟩;obtain ⟨F,H3⟩ := aZ ex F H3;refine aU ?_;refine ak rfl (fun VE => ?_) (fun VE => ?_)
  ·refine aU ?_;refine aC func224 rfl (j8 3 3 rfl _ H3) ?_;rintro e _ ⟨rfl, H8, ex⟩;replace F := F.bk ex;refine aU ?_;refine bW ?_;refine hret rfl rfl ?_;rw [if_neg Om] at hpl;have e1 : pB (.ok (b :: r)) = ((0, false), .error 3) := by rw [mo, hpl]
   rw [e1];exact ⟨rfl, ⟨by omega, by omega, _, H8⟩, F⟩
  refine aU ?_;refine bW ?_;refine hret rfl rfl ?_;rw [if_pos Om] at hpl;have e1 : pB (.ok (b :: r)) = ((nb (UInt8.ofNat (b.toNat % 64) :: r.take (sz - 1)), true), .ok (r.drop (sz - 1))) := by rw [mo, hpl]
  rw [e1];exact ⟨rfl, H3, F⟩
 intro G Vr;refine aU ?_;refine aC func223 rfl (jZ 1 _ he H) ?_;rintro e w1 ⟨A1, n1, c1, rfl, _, K1, H1, ex⟩;replace F := F.bk ex;refine aU ?_;refine bB rfl (fun Vt => ?_) (fun Vt => ?_)
 ·refine aU ?_;refine bW ?_;refine hret rfl rfl ?_;obtain ⟨c, e1, e2, h0, h9⟩ := Ry hs he (by simpa using Vt);rw [e2] at H1;rw [e1];exact ⟨rfl, ⟨h0, h9, _, H1⟩, F⟩
 obtain ⟨b, r, hsb, ht⟩ := Dr hs (by simpa using Vt);rw [ht] at K1 H1;replace K1 : Kp N S (fun w => Bs w A1 n1 [b]) w1 := K1;replace H1 : Rd N S w1 g r 0 := H1;have VF : n1 = 1 := K1.out.1.symm;subst VF;obtain ⟨b1, o1, rfl, _, hcell⟩ := K1.out.get (k := 0) Om;refine au 10 ?_;refine al (aB rfl rfl Tn.u Kr (j := 0) rfl Om) ?_;refine al (af rfl Tn.u rfl hcell) ?_;refine al (cB rfl rfl Om (show ((b.toNat : Nat) : Int) / 64 = ((b.toNat / 64 : Nat) : Int) by omega)) ?_;refine au 3 ?_;refine er ?_; intro VJ Vu;refine iq ?_;refine ae (Vu ?_);exact Vr _ _ ⟨b.toNat / 64, 1, b1, o1, c1, b, r, rfl, rfl, hsb, Nat.le_refl _, by rw [Nat.sub_self], F, H1, K1⟩ Ls
theorem Dt (h : jC xs = .ok (n, r)) : n < 1073741824 := by
  cases xs with
  | nil => cases h
  | cons b t =>
    by_cases hb : 192 ≤ b.toNat
    · rw [lK hb] at h; cases h
    rw [oO hb rfl] at h
    split at h
    · cases h
    split at h
    · injection h with h
      injection h with h1 _
      subst h1
      refine pS ?_
      rw [List.length_take]
      have : 2 ^ (b.toNat / 64) ≤ 2 ^ 2 := Nat.pow_le_pow_right Om Om
      omega
    cases h
theorem IK (s : St) : (pB s).1.2 = false → dh s = ([], (pB s).2) := by
  cases s with
  | error c => intro _; rfl
  | ok xs =>
    rw [mo]
    show _ → (match jF xs with
      | .error c => (([], .error c) : List UInt8 × St)
      | .ok (v, r) => (v, .ok r)) = _
    unfold jF
    grind
theorem KD {s : St} (h : (pB s).1.2 = true) : ∃ n r, pB s = ((n, true), .ok r) ∧ n < 1073741824 ∧ dh s = if r.length < n then ([], .error 4) else (r.take n, .ok (r.drop n)) := by
  cases s with
  | error c => cases h
  | ok xs =>
    rw [mo] at h ⊢
    show ∃ n r, _ ∧ _ ∧ (match jF xs with
      | .error c => (([], .error c) : List UInt8 × St)
      | .ok (v, r) => (v, .ok r)) = _
    unfold jF
    cases hp : jC xs with
    | error c => grind
    | ok p =>
      obtain ⟨n, r⟩ := p
      refine ⟨n, r, rfl, Dt hp, ?_⟩
      grind
theorem JZ {s : St} (w : World) (H0 : Rs N S w g s) :
  Ct 168 #[.pointer (some ⟨g, 0, none⟩)] w fun e w' => ∃ A n c, e = .returned (.slice A n c) ∧ n ≤ c ∧ Fb w.heap.size w' A n (dh s).1 ∧ Rs N S w' g (dh s).2 ∧ aE [g] w w' := by
 have F := aE.refl [g] w;refine ai 15 func168 rfl rfl rfl rfl ?_;intro _ hret;refine aU ?_;refine aC func221 rfl (yN _ H0) ?_;rintro e w1 ⟨rfl, H1, ex⟩;replace F := F.bk ex;refine aU ?_;refine bB rfl (fun Vr => ?_) (fun Vr => ?_)
 ·refine aU ?_;refine hret rfl ?_;rw [IK s (by simpa using Vr)];exact ⟨none, 0, 0, rfl, Nat.le_refl _, Fb.nil _ _ _, H1, F⟩
 refine au 3 ?_;obtain ⟨n, r, e1, hn, e2⟩ := KD (s := s) (by simpa using Vr);rw [e1] at H1 ⊢;replace H1 : Rd N S w1 g r 0 := H1;have Vs := F.size;refine aU ?_;refine aC func222 rfl (FV (n : Int) _ Om Om H1) ?_;rintro e _ ⟨A2, n2, c2, rfl, Vq, Vt, H2, ex⟩;replace F := F.bk ex;rw [tM r n rfl] at Vt H2;refine aU ?_;refine hret rfl ?_;rw [e2];refine ⟨A2, n2, c2, rfl, Vq, ?_, ?_, F⟩
 ·refine Fb.mono (base := w1.heap.size) ?_ Vs;grind
 by_cases hl : r.length < n
 ·rw [if_pos hl] at H2 ⊢; exact ⟨by omega, by omega, _, H2⟩
 rw [if_neg hl] at H2 ⊢; exact H2
namespace Wire
def tA (b : Lb) (at_ : Nat) : Nat × Nat × Nat := match jC (b.drop at_) with
 | .ok (v, r) => (v, b.length - r.length, 0)
 | .error c => (0, at_, c)
def eR (b : Lb) (at_ : Nat) : List UInt8 × Nat × Nat := match jF (b.drop at_) with
 | .ok (v, r) => (v, b.length - r.length, 0)
 | .error c => ([], at_, c)
def dy (k : Nat) (b : Lb) (at_ : Nat) : Nat × Nat × Nat := if (b.drop at_).length < k then (0, at_, 4) else (nb ((b.drop at_).take k), at_ + k, 0)
theorem kc (h : jC (b.drop at_) = .error c) : tA b at_ = (0, at_, c) := by unfold tA; rw [h]
theorem yz (h : jC (b.drop at_) = .ok (v, r)) : tA b at_ = (v, b.length - r.length, 0) := by unfold tA; rw [h]
theorem mQ (h : jF (b.drop at_) = .error c) : eR b at_ = ([], at_, c) := by unfold eR; rw [h]
theorem tu {v : Lb} (h : jF (b.drop at_) = .ok (v, r)) : eR b at_ = (v, b.length - r.length, 0) := by unfold eR; rw [h]
theorem drop_cons (h : k < b.length) : b.drop k = b.getD k 0 :: b.drop (k + 1) := by simp_all
theorem zU (h : jC xs = .error c) : c ≠ 0 ∧ c < 256 := by
  cases xs with
  | nil => cases h; omega
  | cons b t =>
    by_cases hb : 192 ≤ b.toNat
    · rw [lK hb] at h; cases h; omega
    rw [oO hb rfl] at h
    grind
theorem uy (h : jC xs = .ok (n, r)) : ∃ k, 1 ≤ k ∧ k ≤ xs.length ∧ r = xs.drop k := by
  cases xs with
  | nil => cases h
  | cons b t =>
    by_cases hb : 192 ≤ b.toNat
    · rw [lK hb] at h; cases h
    rw [oO hb rfl] at h
    split at h
    · cases h
    rename_i hl
    split at h
    · injection h with h
      injection h with _ h2
      have hp : 1 ≤ 2 ^ (b.toNat / 64) := Nat.pow_pos Om
      refine ⟨2 ^ (b.toNat / 64), hp, by grind, ?_⟩
      rw [← h2]
      obtain ⟨s, hs⟩ : ∃ s, 2 ^ (b.toNat / 64) = s + 1 := ⟨2 ^ (b.toNat / 64) - 1, by omega⟩
      grind
    cases h
theorem vm {v : Lb} (h : jF xs = .ok (v, r)) : ∃ k, 1 ≤ k ∧ k + v.length ≤ xs.length ∧ r = xs.drop (k + v.length) ∧ v = (xs.drop k).take v.length := by
  unfold jF at h
  cases hp : jC xs with
  | error c => grind
  | ok p =>
    obtain ⟨n, r'⟩ := p
    rw [hp] at h
    obtain ⟨k, h1, h2, rfl⟩ := uy hp
    have h' : (if (xs.drop k).length < n then (.error 4 : Except Nat (List UInt8 × List UInt8)) else .ok ((xs.drop k).take n, (xs.drop k).drop n)) = .ok (v, r) := h
    by_cases hl : (xs.drop k).length < n
    · grind
    rw [if_neg hl] at h'
    injection h' with h'
    injection h' with e1 e2
    have hvl : v.length = n := by grind
    rw [List.length_drop] at hl
    exact ⟨k, h1, by omega, by rw [← e2, hvl, List.drop_drop], by rw [hvl, e1]⟩
end Wire
def Sub (A : Oa) (n : Nat) (b : Lb) (A' : Oa) (k : Nat) (v : Lb) : Prop := ∀ w, Bs w A n b → Bs w A' k v
theorem qV (A : Oa) (n c : Nat) (b : Lb) (at_ : Nat) (w : World) (HA : Bs w A n b) (hn : n ≤ 1000000) (hat : at_ ≤ n) :
  Ct 254 #[.slice A n c, .int .i64 (at_ : Int)] w fun e w' => e = .returned (.tuple #[.int .i64 (((tA b at_).1 : Nat) : Int), .int .i64 (((tA b at_).2.1 : Nat) : Int), .int .i64 (((tA b at_).2.2 : Nat) : Int)]) ∧ Ext w w' := by
 have E := Ext.refl w;have hbl := HA.1
 obtain ⟨x, hx⟩ : ∃ x, x = b.getD at_ 0 := ⟨_, rfl⟩
 have VJ := UInt8.toNat_lt x;refine fZ 69 func254 rfl rfl rfl rfl ?_;intro _ hret;refine aU ?_;refine ak rfl (fun Vv => ?_) (fun Vv => ?_)
 ·refine aU ?_;refine hret rfl rfl rfl ?_;rw [kc (c := 4) (by rw [List.drop_of_length_le Om]; rfl)];exact ⟨rfl, E⟩
 have hlt : at_ < n := by omega
 obtain ⟨b0, o0, rfl, _, hcell⟩ := HA.get hlt;rw [← hx] at hcell;have hdr : b.drop at_ = x :: b.drop (at_ + 1) := by simp_all
 have hrl : (b.drop (at_ + 1)).length = n - at_ - 1 := by grind
 refine au 13 ?_;refine al (af rfl Tn.u rfl hcell) ?_;refine aU ?_;refine eD (fun L Vr => ∃ (sz : Nat), L = [(0, .slice (some ⟨b0, o0, none⟩) n c), (1, .int .i64 (at_ : Int)), (7, .int .i64 (sz : Int))] ∧ (Vr = w ∧ ((x.toNat < 64 ∧ sz = 1) ∨ (64 ≤ x.toNat ∧ sz = 2)))) ?_ ?_
 ·skip;refine ak rfl (fun Vw => ?_) (fun Vw => ?_)
  ·refine aU ?_;exact bd _ ⟨2, rfl, rfl, .inr ⟨by omega, rfl⟩⟩ Ls
  refine aU ?_;exact bd _ ⟨1, rfl, rfl, .inl ⟨by omega, rfl⟩⟩ Ls
 rintro L Vr ⟨sz, rfl, rfl, _⟩;refine au 7 ?_;refine al (af rfl Tn.u rfl hcell) ?_;refine aU ?_;refine eD (fun L Vs => ∃ (sy : Nat), L = [(0, .slice (some ⟨b0, o0, none⟩) n c), (1, .int .i64 (at_ : Int)), (7, .int .i64 (sy : Int))] ∧ (Vs = Vr ∧ ((x.toNat < 64 ∧ sy = 1) ∨ (64 ≤ x.toNat ∧ x.toNat < 128 ∧ sy = 2) ∨ (128 ≤ x.toNat ∧ sy = 4)))) ?_ ?_
 ·skip;refine ak rfl (fun Vx => ?_) (fun Vx => ?_)
  ·refine aU ?_;exact bd _ ⟨4, rfl, rfl, by omega⟩ Ls
  refine aU ?_;exact bd _ ⟨sz, rfl, rfl, by omega⟩ Ls
 rintro L Vs ⟨sy, rfl, rfl, hsy⟩;refine au 7 ?_;refine al (af rfl Tn.u rfl hcell) ?_;refine aU ?_;refine ak rfl (fun Vy => ?_) (fun Vy => ?_)
 ·refine aU ?_;refine hret rfl rfl rfl ?_;rw [kc (c := 3) (by rw [hdr]; exact lK Om)];exact ⟨rfl, E⟩
 have hsm : ¬ 192 ≤ x.toNat := by omega
 have Vz : sy = 2 ^ (x.toNat / 64) := by
  rcases hsy with ⟨h, e⟩ | ⟨h1, h2, e⟩ | ⟨h, e⟩
  ·rw [show x.toNat / 64 = 0 by omega]; omega
  ·rw [show x.toNat / 64 = 1 by omega]; omega
  rw [show x.toNat / 64 = 2 by omega]; omega
 have hpl := oO (r := b.drop (at_ + 1)) hsm Vz;rw [← hdr] at hpl;have Vt : 1 ≤ sy ∧ sy ≤ 4 := by omega
 refine aU ?_;refine ak rfl (fun VA => ?_) (fun VA => ?_)
 ·refine aU ?_;refine hret rfl rfl rfl ?_;rw [if_pos Om] at hpl;rw [kc hpl];exact ⟨rfl, E⟩
 rw [if_neg Om] at hpl
 obtain ⟨ys, hys⟩ : ∃ ys, ys = UInt8.ofNat (x.toNat % 64) :: b.drop (at_ + 1) := ⟨_, rfl⟩
 have hyl : ys.length = n - at_ := by grind
 have VB : nb (ys.take 1) = x.toNat % 64 := by rw [hys]; simp [nb, UInt8.toNat_ofNat']; omega
 refine au 7 ?_;refine al (af rfl Tn.u rfl hcell) ?_;refine au 1 ?_;refine al (ck rfl rfl Om (show (((x.toNat : Nat) : Int).tmod 64) = ((x.toNat % 64 : Nat) : Int) from rfl)) ?_;refine aU ?_;refine aD (fun n' L wr => ∃ (i v : Nat), L = [(0, .slice (some ⟨b0, o0, none⟩) n c), (1, .int .i64 (at_ : Int)), (7, .int .i64 (sy : Int)), (8, .int .i64 (v : Int)), (9, .int .i64 (i : Int))] ∧ n' = sy - i ∧ (1 ≤ i ∧ i ≤ sy ∧ v = nb (ys.take i) ∧ Ext Vs wr)) _ _ ⟨1, x.toNat % 64, rfl, rfl, Nat.le_refl _, Vt.1, VB.symm, Ext.refl _⟩ Ls ?_;rintro _ n' L wr ⟨i, v, rfl, rfl, _, _, hv, E⟩ VC;refine aU ?_;refine ak rfl (fun VD => ?_) (fun VD => ?_)
 ·have VE : i < sy := by omega
  obtain ⟨b1, o1, e1, _, Vq⟩ := (HA.ext E).get (k := at_ + i) Om;injection e1 with e1
  injection e1 with VF VG _
  subst VF; subst VG;have VK := UInt8.toNat_lt (b.getD (at_ + i) 0);have hst := fz (xs := ys) (k := i) Om
  have hgy : ys.getD i 0 = b.getD (at_ + i) 0 := by grind
  rw [hgy, ← hv] at hst;have hvl := uO (ys.take i);rw [← hv, List.length_take] at hvl;have VH : v < 256 ^ 3 := Nat.lt_of_lt_of_le hvl (Nat.pow_le_pow_right Om Om);refine au 11 ?_;refine al (aB rfl rfl Tn.u Kr (j := at_ + i) Om Om) ?_;refine al (af rfl Tn.u rfl Vq) ?_;refine au 11 ?_;refine ae ?_;refine VC _ _ ⟨i + 1, 256 * v + (b.getD (at_ + i) 0).toNat, rfl, rfl, by omega, by omega, by omega, E⟩ Om Ls
 obtain rfl : i = sy := by omega
 have hyt : ys.take i = UInt8.ofNat (x.toNat % 64) :: (b.drop (at_ + 1)).take (i - 1) := by grind
 rw [← hyt, ← hv] at hpl;have Vu : v < 1073741824 := by rw [hv, hyt]; exact pS (by grind)
 refine aU ?_;refine aC func124 rfl (sv v _ Vu) ?_;rintro e _ ⟨_, _, rfl, _, ex⟩;replace E := E.ext ex;refine aU ?_;refine ak rfl (fun VI => ?_) (fun VI => ?_)
 ·refine aU ?_;refine hret rfl rfl rfl ?_;rw [if_neg Om] at hpl;rw [kc hpl];exact ⟨rfl, E⟩
 rw [if_pos Om] at hpl;refine aU ?_;refine hret rfl rfl rfl ?_;rw [yz hpl];exact ⟨by grind, E⟩
theorem yt {z : Nat} (HA : Bs w A n b) (hn : n ≤ 1000000) (hat : at_ ≤ n) (h : jC (b.drop at_) = .error z) :
  Ct 254 #[.slice A n c, .int .i64 (at_ : Int)] w fun e w' => e = .returned (.tuple #[.int .i64 0, .int .i64 (at_ : Int), .int .i64 (z : Int)]) ∧ Ext w w' :=
 (qV A n c b at_ w HA hn hat).mono fun _ _ ⟨h1, h2⟩ => ⟨by rw [h1, kc h]; rfl, h2⟩
theorem AH (HA : Bs w A n b) (hn : n ≤ 1000000) (hat : at_ ≤ n) (h : jC (b.drop at_) = .ok (v, r)) :
  Ct 254 #[.slice A n c, .int .i64 (at_ : Int)] w fun e w' => e = .returned (.tuple #[.int .i64 (v : Int), .int .i64 ((n - r.length : Nat) : Int), .int .i64 0]) ∧ Ext w w' :=
 (qV A n c b at_ w HA hn hat).mono fun _ _ ⟨h1, h2⟩ => ⟨by rw [h1, yz h, HA.1]; rfl, h2⟩
def QN (A : Oa) (n : Nat) (b v : Lb) (nx z : Nat) (w w' : World) (e : Ending) : Prop := ∃ A' k c', e = .returned (.tuple #[.slice A' k c', .int .i64 (nx : Int), .int .i64 (z : Int)]) ∧ Sub A n b A' k v ∧ k ≤ c' ∧ Ext w w'
theorem Co {z : Nat} (HA : Bs w A n b) (hn : n ≤ 1000000) (hat : at_ ≤ n) (h : jC (b.drop at_) = .error z) :
  Ct 231 #[.slice A n c, .int .i64 (at_ : Int)] w fun e w' => QN A n b [] at_ z w w' e := by
 have E := Ext.refl w;have hz := zU h;refine fZ 37 func231 rfl rfl rfl rfl ?_;intro _ hret;refine aU ?_;refine aC func254 rfl (yt HA hn hat h) ?_;rintro e _ ⟨rfl, ex⟩;replace E := E.ext ex;refine aU ?_;refine hret rfl rfl rfl ?_;exact ⟨none, 0, 0, rfl, fun w _ => Bs.nil w _, Nat.le_refl _, E⟩
theorem Ba (HA : Bs w A n b) (hc : n ≤ c) (hn : n ≤ 1000000) (hat : at_ ≤ n) (hp : jC (b.drop at_) = .ok (v, r)) :
  Ct 231 #[.slice A n c, .int .i64 (at_ : Int)] w fun e w' => QN A n b (eR b at_).1 (eR b at_).2.1 (eR b at_).2.2 w w' e := by
 have E := Ext.refl w;have hbl := HA.1;have hvl := Dt hp;obtain ⟨q, Vs, Vq, hqr⟩ := uy hp;rw [List.length_drop] at Vq;have hrl : r.length = n - at_ - q := by grind
 have hpv : jF (b.drop at_) = if r.length < v then .error 4 else .ok (r.take v, r.drop v) := by unfold jF; rw [hp]
 obtain ⟨nx, hnx⟩ : ∃ nx, nx = n - r.length := ⟨_, rfl⟩
 refine fZ 37 func231 rfl rfl rfl rfl ?_;intro _ hret;refine aU ?_;refine aC func254 rfl (AH HA hn hat hp) ?_;rintro e _ ⟨rfl, ex⟩;refine au 1 ?_;replace E := E.ext ex;rw [← hnx];refine aU ?_;refine ak rfl (fun Vr => ?_) (fun Vr => ?_)
 ·refine aU ?_;refine hret rfl rfl rfl ?_;rw [if_pos Om] at hpv;rw [mQ hpv];exact ⟨none, 0, 0, rfl, fun w _ => Bs.nil w _, Nat.le_refl _, E⟩
 rw [if_neg Om] at hpv;refine au 9 ?_;refine al (wZ (s := 1) rfl rfl rfl Tn.u Kr (j := nx) rfl (h := nx + v) Om Om Om) ?_;refine aU ?_;refine hret rfl rfl rfl ?_;rw [tu hpv];refine ⟨lE A c nx 1, nx + v - nx, c - nx, ?_, fun w H => ?_, by omega, E⟩
 ·grind
 have h1 := (H.take (k := nx + v) Om).lE (c := c) (j := nx) Om Om;have e : (b.take (nx + v)).drop nx = r.take v := by rw [List.drop_take, hqr, List.drop_drop]; grind
 grind
theorem yo (HA : Bs w A n b) (hc : n ≤ c) (hn : n ≤ 1000000) (hat : at_ ≤ n) :
    Ct 231 #[.slice A n c, .int .i64 (at_ : Int)] w fun e w' => QN A n b (eR b at_).1 (eR b at_).2.1 (eR b at_).2.2 w w' e := by
  cases hp : jC (b.drop at_) with
  | error z =>
    have hv : jF (b.drop at_) = .error z := by unfold jF; rw [hp]
    rw [mQ hv]
    exact Co HA hn hat hp
  | ok p => exact Ba HA hc hn hat (v := p.1) (r := p.2) hp
end Go.Proofs.YtgfafidlkldeaaaGreat
