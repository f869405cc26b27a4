/- The law WelcomeAll: each guest is let in. No conditions: contracts of functions. -/
import Derived.Test.YtgfafidlkldeaaaGreatNmD0
import Derived.Test.YtgfafidlkldeaaaGreatNmD1
import Derived.Test.YtgfafidlkldeaaaGreatNmD2
import Derived.Test.YtgfafidlkldeaaaGreatNmD3
import Derived.Test.YtgfafidlkldeaaaGreatNmD4
import Derived.Test.YtgfafidlkldeaaaGreatNmD5
import Derived.Test.YtgfafidlkldeaaaGreatNmD6
import Derived.Test.YtgfafidlkldeaaaGreatNmD7
import Derived.Test.YtgfafidlkldeaaaGreatNmC
import Derived.Test.YtgfafidlkldeaaaGreatWlK
import Derived.Test.YtgfafidlkldeaaaGreatAu
set_option linter.unusedVariables false
set_option linter.unusedSimpArgs false
set_option maxHeartbeats 4000000
set_option maxRecDepth 4000
namespace Go.Proofs.YtgfafidlkldeaaaGreat
open Go.RowKit Tryz
attribute [local irreducible] Ef WC WF WG WJ WK WL WM WN WQ WR Y cu db iC lW rQ
variable {x : Ctx} {j seed t : Lb} {a b c i k n : Nat} {w w' : aa9}
namespace Qk
theorem cG (h : (List.range 8).map (fun i => key (c + i)) = (jw.drop c).take 8) (hi : i < 8) : jw[c + i]? = some (key (c + i)) := by have e := congrArg (fun l => l[i]?) h;grind
theorem MT (a : Nat) (h : a < 256) : jw[a]? = some (key a) := by
 rw [show a = a / 8 * 8 + a % 8 by omega];have h3 := Nat.mod_lt a (show 0 < 8 by omega)
 match hq : a / 8, (show a / 8 < 32 by omega) with
 | 0, _ => exact cG Ym h3
 | 1, _ => exact cG Yk h3
 | 2, _ => exact cG YG h3
 | 3, _ => exact cG Yx h3
 | 4, _ => exact cG Yp h3
 | 5, _ => exact cG Yr h3
 | 6, _ => exact cG YM h3
 | 7, _ => exact cG Yh h3
 | 8, _ => exact cG Yt h3
 | 9, _ => exact cG Yo h3
 | 10, _ => exact cG Xu h3
 | 11, _ => exact cG Xz h3
 | 12, _ => exact cG Wh h3
 | 13, _ => exact cG XG h3
 | 14, _ => exact cG Xf h3
 | 15, _ => exact cG We h3
 | 16, _ => exact cG VS h3
 | 17, _ => exact cG WD h3
 | 18, _ => exact cG Xl h3
 | 19, _ => exact cG Xv h3
 | 20, _ => exact cG WE h3
 | 21, _ => exact cG Xe h3
 | 22, _ => exact cG Xy h3
 | 23, _ => exact cG XQ h3
 | 24, _ => exact cG Wk h3
 | 25, _ => exact cG Ww h3
 | 26, _ => exact cG Xo h3
 | 27, _ => exact cG Xw h3
 | 28, _ => exact cG Xn h3
 | 29, _ => exact cG Wg h3
 | 30, _ => exact cG Wc h3
 | 31, _ => exact cG Xr h3
 | n + 32, h => omega
theorem Sr (ha : a < 256) (hb : b < 256) (h : a ≠ b) : key a ≠ key b := fun e => by have h1 := MT a ha; have h2 := MT b hb;rw [← e] at h2;exact h ((List.getElem?_inj (by grind) GP).1 (h1.trans h2.symm))
end Qk
theorem AV {p q : Nat × Nat} (hp : p.1 < 256) (hq : q.1 < 256) (h : p.1 ≠ q.1) : dW (cK p) ≠ dW (cK q) := fun e => by refine Qk.Sr hp hq h ?_;unfold cK ma at e;rw [Qk.Ga, Qk.Ga] at e;unfold Qk.key;rw [e]
open Wire Nd Hk
theorem Mq (h1 : x.grp.length ≤ 64) (h2 : x.tree.length = 32) (h3 : x.trans.length = 32) (ht : t.length = 32) (hs : seed.length = 32) :
  ∃ I, nP ⟨x, t, 3, []⟩ seed = (I, 0) ∧ dk I ∧ o9 I (Sg.iZ seed) = true ∧ I.ctx = x ∧ I.tag = t := by
 have o : ∀ s : List UInt8, s.length = 64 → dk ⟨x, t, 3, s⟩ := fun s h => ⟨h1, h2, h3, ht, ⟨(by grind), (by grind)⟩, h⟩;have e : gY seed (Sg.text th.data.toList (jX ⟨x, t, 3, []⟩)) = (Sg.sig seed (Sg.text th.data.toList (jX ⟨x, t, 3, []⟩)), 0) := by unfold gY; rw [if_pos hs]
 have h4 := Sg.fQ seed (Sg.text th.data.toList (jX ⟨x, t, 3, []⟩));refine ⟨⟨x, t, 3, Sg.sig seed (Sg.text th.data.toList (jX ⟨x, t, 3, []⟩))⟩, ?_, o _ h4, ?_, rfl, rfl⟩
 ·unfold nP;rw [if_neg (fun h => h (o _ (by simp))), e, if_neg (fun h => h rfl)]; rfl
 unfold o9;rw [decide_eq_true (o _ h4), Bool.true_and];exact Sg.IG _ _
theorem yk (_ : Ext w w') : Ext w' w' := Ext.refl w'
theorem TH {o : Int} (h : (Lit.int .u8 o).wf = true) : ∃ k : Nat, o = (k : Int) ∧ k < 256 := by have h := bounds_u8 h;exact ⟨o.toNat, Om, Om⟩
theorem TV {A : Oa} {ps : List (Nat × Nat)} (H : rz vH 2 w A n ps) (a : Nat) : (ps.getD a (0, 0)).1 < 256 := by
 rw [List.getD_eq_getElem?_getD]
 cases h : ps[a]? with
 | none => grind
 | some p => obtain ⟨_, vs, _, _, h4⟩ := H; exact (h4 a p h).2.1
theorem Gz {ps : List (Nat × Nat)} {p : Nat × Nat} (hg : ps.getD i (0, 0) = p) (h : ∀ a, a < i → (ps.getD a (0, 0)).1 ≠ k) : decide ((p.1 : Int) = (k : Int)) = true ∨ ∀ a, a < i + 1 → (ps.getD a (0, 0)).1 ≠ k := by grind
theorem MR {ps : List (Nat × Nat)} {p : Nat × Nat} (h : ps[i]? = some p) : ps.getD i (0, 0) = p := by grind
theorem EK {ps : List (Nat × Nat)} {y : Gs} (hi : i < n) (h : (fC (-1) ps n)[i]? = some y) : y = ⟨cK (ps.getD i (0, 0)), kZ (ps.getD i (0, 0))⟩ := by
 unfold fC at h;rw [List.getElem?_map, List.getElem?_range hi] at h;injection h with h
 rw [← h]; exact CZ _ _
theorem IK {ps : List (Nat × Nat)} {y : P8} (hi : i < n) (h : (mO ps n)[i]? = some y) : y = keyOf (ps.getD i (0, 0)) := by unfold mO at h;grind
theorem Jk {i : fK} {ps : List (Nat × Nat)} (hj : j.length = 32) (o : dk i) (hx : i.ctx = x) (he : x.ep < 18446744073709551616) (ht : i.tag = Mac.tag ((dD j x).getD 8 []) x.trans) (hn : n ≤ 60) (hl : ps.length = n) (hp : ∀ a, (ps.getD a (0, 0)).1 < 256) :
  ∃ X, gd (dD j x) i (fC (-1) ps n) seed = (X, 0) ∧ X.Small ∧ (∀ k, k < n → (∀ a, a < k → (ps.getD a (0, 0)).1 ≠ (ps.getD k (0, 0)).1) → eL X (cK (ps.getD k (0, 0))) (fS (ll (ma (ps.getD k (0, 0))))) = (⟨i, dD j x, kZ (ps.getD k (0, 0))⟩, 0)) ∧
   ∀ k ini, k < 256 → (∀ a, a < n → (ps.getD a (0, 0)).1 ≠ k) → (eL X (cK (k, 0)) ini).2 = 7 := by
 subst hx;obtain ⟨h1, h2, _⟩ := Ai (ts := dD j i.ctx) (i := i) (seed := seed) (ps := ps) (n := n) (by show j.length = 32; omega) o hn hl;exact ⟨_, Prod.ext rfl h1, h2, fun k hk hne => Bf hj o he ht hn hk fun a ha => AV (hp a) (hp k) (hne a ha), fun k ini hk hne => Bg hj o hn fun a ha => AV (hp a) hk (hne a ha)⟩
theorem uw (A : Oa) (n c : Nat) (js : Lb) (cs : Array Value) (x : Ctx) (B : Oa) (m d : Nat) (ps : List (Nat × Nat)) (o1 : Int) (S : Oa) (q e : Nat) (seed : Lb) (w : aa9) (HA : Bs w A n js) (_hn : n ≤ maxLen) (HC : gU w cs x) (hep : x.ep < 18446744073709551616) (HP : rz vH 2 w B m ps)
  (h1 : (Lit.int .u8 o1).wf = true) (HS : Bs w S q seed) (_hq : q ≤ maxLen) :
  Ct 6 #[.slice A n c, .agg cs, .slice B m d, .int .u8 o1, .slice S q e] w fun e w' => e = .returned (.bool true) ∧ Below w.heap.size w w' := by
 have E := Ext.refl w;have hpl := HP.1;have hjl := HA.1;have Qt := HS.1;have hpt := TV HP;obtain ⟨k1, rfl, ZK⟩ := TH h1;have Z7 := HC;obtain ⟨A1, A2, A3, n1, c1, n2, c2, n3, c3, rfl, v1, v2, v3⟩ := Z7;have l1 := v1.1; have l2 := v2.1; have l3 := v3.1;refine ai 259 func6 ?_;intro Q aa4;refine aU ?_;intro _ _ B6 _ ex;replace E := E.ext ex;refine aU ?_;refine aB func7 rfl (Lo _) ?_;rintro e _ ⟨rfl, ex⟩;obtain ⟨E,B6⟩ := aS ex E B6;refine au 4 ?_;refine bm rfl rfl ?_;refine aU ?_;refine aB func15 rfl (sZ _ (HC.ext E) hep) ?_;rintro e _ ⟨rfl, ex⟩;obtain ⟨E,B6⟩ := aS ex E B6;refine au 1 ?_;refine kQ (pY rfl) rfl (fun q0 => ?_) (fun q0 => ?_)
 ·refine au 35 ?_;refine bS rfl rfl ?_;refine aU ?_;exact aa4 rfl ⟨rfl, E⟩
 refine au 4 ?_;refine bN 41 rfl rfl (vP rfl rfl) rfl (fun q1 => ?_) (fun q1 => ?_)
 ·refine au 30 ?_;refine bS rfl rfl ?_;refine aU ?_;exact aa4 rfl ⟨rfl, E⟩
 refine au 5 ?_;refine bN 47 rfl rfl (kg rfl rfl) rfl (fun q2 => ?_) (fun q2 => ?_)
 ·refine au 24 ?_;refine bS rfl rfl ?_;refine aU ?_;exact aa4 rfl ⟨rfl, E⟩
 refine au 5 ?_;refine bN 53 rfl rfl (kg rfl rfl) rfl (fun q3 => ?_) (fun q3 => ?_)
 ·refine au 18 ?_;refine bS rfl rfl ?_;refine aU ?_;exact aa4 rfl ⟨rfl, E⟩
 refine au 4 ?_;refine bN 59 rfl rfl (kg rfl rfl) rfl (fun q4 => ?_) (fun q4 => ?_)
 ·refine au 13 ?_;refine bS rfl rfl ?_;refine aU ?_;exact aa4 rfl ⟨rfl, E⟩
 refine au 4 ?_;refine bN 64 rfl rfl (kg rfl rfl) rfl (fun q5 => ?_) (fun q5 => ?_)
 ·refine au 8 ?_;refine bS rfl rfl ?_;refine aU ?_;exact aa4 rfl ⟨rfl, E⟩
 refine au 4 ?_;refine bN 69 rfl rfl (vP rfl rfl) rfl (fun q6 => ?_) (fun q6 => ?_)
 ·refine au 3 ?_;refine bS rfl rfl ?_;refine aU ?_;exact aa4 rfl ⟨rfl, E⟩
 refine au 3 ?_;refine bm rfl rfl ?_;have hsm : x.Small := by simpa using q0
 refine aU ?_;refine aB func16 rfl (Eu (-1) _ (HP.ext E fun _ _ h => h) Om) ?_;rintro e w3 ⟨Zi, c11, Zs, Zu, rfl, HG, HK, _, ex⟩;obtain ⟨E,B6⟩ := aS ex E B6;have Z3 := Ext.refl w3;refine au 17 ?_;refine bm rfl rfl ?_;refine aU ?_;refine aB func17 rfl (L6 A n c js _ x _ (Bs.ext HA E) Om (HC.ext E) hsm) ?_;rintro e w4 ⟨_, rfl, HT, ex⟩;obtain ⟨E,B6,Z3⟩ := bh ex E B6 Z3;obtain ⟨s0, s1, s2, s3, s4, s5, s6, s7, s8, s9, Z8, s11, rfl⟩ := HT.form; have Z4 := Ext.refl w4;refine aU ?_;intro _ Y3 D14 Zj exA;refine aU ?_;intro _ YV cg;have ex := exA.aw cg Zj; clear cg exA D14;obtain ⟨E,B6,Z3,Z4⟩ := bG ex E B6 Z3 Z4;refine aU ?_;replace YV := YV.congr (cs' := wR s0 s1 s2 s3 s4 s5 s6 s7 s8 s9 Z8 s11) rfl;obtain ⟨I, ZL, hok, hsd, hIc, hIt⟩ := Mq (t := Mac.tag ((dD js x).getD 8 []) x.trans) (x := x) (seed := seed) Om Om Om (Mac.du _ _) Om;obtain ⟨X, ZM, hXs, hop, hno⟩ := Jk (j := js) (seed := seed) (x := x) (i := I) (ps := ps) (n := m) Om hok hIc hep hIt Om hpl hpt;have hsmI : I.ctx.Small := by grind
 have hti := hok.2.2.2.1;have hsi := hok.2.2.2.2.2;have htg := Mac.du ((dD js x).getD 8 []) x.trans
 have hfI : I.Fit := ⟨by grind, by grind, by grind, Om, Om⟩
 refine dA Kr 15 rfl ?_; intro wd9 ex hd9;obtain ⟨E,B6,Z3,Z4,YV⟩ := fR ex E B6 Z3 Z4 YV;have Zv := E;have B6_0 := B6;have Zw := Z3;have Zx := Z4;have YZ := YV;have X0 := Ext.refl wd9;refine zm [0, 1, 2, 3, 4, 7] ?_;refine dx (fl := [sj 12 15 42 (ku)]) rfl ?_;have y8 := vv (HT.ext Z4);have y10 := y8.1; have e8 := rG js x;refine j9 5 (some 91) func18 ?_;intro _ ex exb;obtain ⟨E,Z3,Z4,YV,X0⟩ := fR ex E Z3 Z4 YV X0;refine ⟨_, (kJ _ _ _ _ _ _ _ _ _ (vv (HT.ext Z4)) Om (Bs.ext v3 E) Om), ?_⟩;rintro e _ ⟨ZN, ZO, rfl, R91, ex⟩;refine ⟨_, rfl, ex, ?_⟩;obtain ⟨E,Z3,Z4,YV,X0⟩ := fR ex E Z3 Z4 YV X0;have Zy := R91.bs;refine ju (dst := some 92) 6 rfl Kr (aA rfl (cells := kA ⟨A1, n1, c1⟩ x.ep ⟨A2, n2, c2⟩ ⟨A3, n3, c3⟩ ⟨ZN, 32, ZO⟩ 3 ar) Kr) rfl (aN (aa2 rfl) av) ?_;refine j9 8 (some 94) func23 ?_;intro _ ex exb;obtain ⟨E,Z3,Z4,YV,X0,Zy⟩ := iz ex E Z3 Z4 YV X0 Zy;refine ⟨_, (G0 (i := ⟨x, Mac.tag ((dD js x).getD 8 []) x.trans, 3, []⟩) _ ⟨⟨A1, n1, c1⟩, ⟨A2, n2, c2⟩, ⟨A3, n3, c3⟩, ⟨ZN, 32, ZO⟩, ar, rfl, hep, ⟨by grind, by grind⟩, Bs.ext v1 E, Bs.ext v2 E, Bs.ext v3 E, Zy, Bs.nil _ _⟩ ⟨by grind, by grind, by grind, by grind, Nat.zero_le _⟩ hsm (by grind) (Bs.ext HS E) Om), ?_⟩;rintro e _ ⟨_, rfl, G9, ex⟩;refine ⟨_, rfl, ex, ?_⟩;obtain ⟨E,Z3,Z4,YV,X0⟩ := fR ex E Z3 Z4 YV X0;rw [ZL] at G9; obtain ⟨⟨j0, j1, j2, j3, j4, rfl, _⟩, _⟩ := id G9;refine ju (dst := some 85) 9 rfl Kr (aL rfl) rfl (aN (aa2 rfl) av) ?_;refine ju (dst := some 95) 10 rfl Kr (cM rfl rfl) rfl (aN (aa2 rfl) av) ?_;refine ju (dst := some 96) 11 rfl Kr (cM rfl rfl) rfl (aN (aa2 rfl) av) ?_;refine gR ⟨(aN (br rfl Kr) av), aa2 rfl, aa2 rfl, (aN (⟨rfl, aa2 rfl⟩) av), (aN (aQ Kr) av)⟩ Kr ?_;rintro _ _ ex ⟨⟨Zk, rfl, YU⟩, Za⟩;replace Za := Za Zk rfl;obtain ⟨E,Z3,Z4,YV,X0⟩ := fR ex E Z3 Z4 YV X0;have K9 := xy (G9.1.ext ex) (dg YU rfl gA);refine cY 13 Kr ?_;refine er rfl (ag rfl rfl Kr YU rfl (bu rfl)) rfl ?_;rintro _ _ ⟨rfl, YU, cg⟩;replace X0 := X0.aw cg Za;refine ⟨X0, ?_⟩;replace E := Zv.ext X0;replace Z3 := Zw.ext X0;replace Z4 := Zx.ext X0;replace YV := YZ.ext X0;have HI := (K9.bD (aI.one cg) (by simp)).out;refine zm [14] ?_;refine dM Kr ?_;have Z9 := yk E;refine aU ?_;refine aB func21 rfl (IW (G := ⟨Zi, m, c11⟩) (D := ⟨S, q, e⟩) (x := I) _ (HT.ext Z4) (by show js.length ≤ 1000; omega) (by rw [qu]; unfold ph; rw [dL]; omega) (HI.ext Z9) hsmI Om Om (HG.ext Z3 fun _ _ h => qw.ext h Z3) Ik (Bs.ext HS E) (by grind)) ?_;rintro e w10 ⟨_, rfl, HX, ex⟩;refine au 1 ?_;obtain ⟨E,Z3,Z4,YV,YU,Z9⟩ := iz ex E Z3 Z4 YV YU Z9;rw [ZM] at HX; obtain ⟨y0, y1, rfl, _⟩ := id HX; have Zz := Ext.refl w10;refine aU ?_;intro _ Zb D17 Zl exA;refine aU ?_;intro Y0 YY cg;have ex := exA.aw cg Zl; clear cg exA D17;obtain ⟨E,Z3,Z4,YV,YU,Z9,Zz⟩ := iW ex E Z3 Z4 YV YU Z9 Zz;refine au 7 ?_;refine ak (bc rfl Tn.u Tn.u (show _ = (0 : Int) from by rw [ZL]; rfl)) ?_;refine au 1 ?_;refine ak (bc rfl Tn.u Tn.u (show _ = (0 : Int) from by rw [ZM]; rfl)) ?_;refine ak (aO rfl rfl (show _ = (0 : Int) from rfl)) ?_;refine ak (Y.as (kg rfl rfl) (congrArg Value.bool (decide_eq_false (fun h => h rfl)))) ?_;refine au 2 ?_;refine bm rfl rfl ?_;have C14 := YV; have ZP := YU;have ZQ := YY.congr (cs' := gS y0 y1) rfl;have HGp := HG.ext Z3 fun _ _ h => qw.ext h Z3;have HKp : rz (fun w => jM (qP w)) 3 _ Zs m (mO ps m) := HK.ext Z3 fun _ _ h => jM.imp _ _ _ _ h fun _ _ b => Bs.ext b Z3;have HXp := HX.ext Zz
 have HIp : jF _ _ I := ⟨HI.ext Z9, G9.2⟩
 have HTp := HT.ext Z4;have Q := yk E;refine aU ?_;refine aE (fun n' L wr => ∃ (i : Nat) (b : Bool), L = [(0, .slice A n c), (2, .slice B m d), (3, .int .u8 (k1 : Int)), (4, .slice S q e), (11, .slice Zi m c11), (12, .slice Zs m Zu), (14, .pointer (cf Y3)), (15, .pointer (cf Zk)), (17, .pointer (cf Zb)), (19, .bool b), (20, .int .i64 (i : Int))] ∧ n' = m - i ∧ (i ≤ m ∧ Ext w wr ∧ Ext Y0 wr ∧ (b = true ∨ ∀ a, a < i → (ps.getD a (0, 0)).1 ≠ k1))) _ _ ⟨0, false, rfl, rfl, Nat.zero_le _, E, Q, .inr fun a ha => absurd ha (Nat.not_lt_zero a)⟩ Ls ?_;rintro _ n' L wr ⟨i, b, rfl, rfl, hi, E, Q, hor⟩ ZR;refine aa1 (fun hc5 => ?_) (fun hc5 => ?_)
 ·have hi : i < m := Om
  obtain ⟨bP, oP, cs1, p, e1, _, hx, hcz, ⟨rfl, hp1, hp2⟩, hcx⟩ := HP.CC Om (i := i) hi;have Zm : ∀ W', Ext w W' → ∀ j v, (#[.int .u8 (p.1 : Int), .int .u8 (p.2 : Int)] : Array Value)[j]? = some v → W'.cell? ⟨bP, oP + i * 2 + j, none⟩ = some v := fun W' E j v hv => (Below.cell E (dR (hcx j v hv))).trans (hcx j v hv);obtain rfl := (MR hx).symm;refine au 5 ?_;refine iB (fun L Zc => ∃ (b2 : Bool), L = [(0, .slice A n c), (2, .slice B m d), (3, .int .u8 (k1 : Int)), (4, .slice S q e), (11, .slice Zi m c11), (12, .slice Zs m Zu), (14, .pointer (cf Y3)), (15, .pointer (cf Zk)), (17, .pointer (cf Zb)), (19, .bool b2), (20, .int .i64 (i : Int))] ∧ (Ext w Zc ∧ Ext Y0 Zc ∧ (b2 = true ∨ ∀ a, a < i + 1 → (ps.getD a (0, 0)).1 ≠ k1))) ?_ ?_
  ·refine au 2 ?_;refine kQ (aL rfl) rfl (fun ZS => ?_) (fun ZS => ?_)
   ·refine aU ?_;exact cV _ ⟨true, rfl, E, Q, .inl rfl⟩ Ls
   refine au 2 ?_;refine qG 118 (fp (s := 2) (j := i) e1 rfl rfl Tn.u Kr rfl hi) ?_;refine au 1 ?_;refine qG 118 (ah rfl Tn.u rfl (Zm _ E 0 _ rfl)) ?_;refine aU ?_;exact cV _ ⟨_, rfl, E, Q, Gz rfl (hor.resolve_left (by simp [ZS]))⟩ Ls
  rintro L Zc ⟨b2, rfl, E, Q, Zn⟩;refine aU ?_;refine aE (fun n' L ZA => ∃ (a : Nat) (tw : Bool), L = [(0, .slice A n c), (2, .slice B m d), (3, .int .u8 (k1 : Int)), (4, .slice S q e), (11, .slice Zi m c11), (12, .slice Zs m Zu), (14, .pointer (cf Y3)), (15, .pointer (cf Zk)), (17, .pointer (cf Zb)), (19, .bool b2), (20, .int .i64 (i : Int)), (21, .bool tw), (22, .int .i64 (a : Int))] ∧ n' = i - a ∧ (a ≤ i ∧ Ext w ZA ∧ Ext Y0 ZA ∧ (tw = true ∨ ∀ b, b < a → (ps.getD b (0, 0)).1 ≠ (ps.getD i (0, 0)).1))) _ _ ⟨0, false, rfl, rfl, Nat.zero_le _, E, Q, .inr fun a ha => absurd ha (Nat.not_lt_zero a)⟩ Ls ?_;rintro _ n' L ZA ⟨a, tw, rfl, rfl, ha, E, Q, Zo⟩ ZT;refine aa1 (fun hc6 => ?_) (fun hc6 => ?_)
  ·have ha : a < i := Om
   obtain ⟨bR, oR, cs2, p2, e2, _, hx2, hcz2, ⟨rfl, hp3, hp4⟩, hcy⟩ := HP.CC Om (i := a) Om;have ZB : ∀ W', Ext w W' → ∀ j v, (#[.int .u8 (p2.1 : Int), .int .u8 (p2.2 : Int)] : Array Value)[j]? = some v → W'.cell? ⟨bR, oR + a * 2 + j, none⟩ = some v := fun W' E j v hv => (Below.cell E (dR (hcy j v hv))).trans (hcy j v hv);refine aU ?_;refine aD Kr 15 rfl ?_; intro wd22 ex hd22;obtain ⟨E,Q⟩ := aS ex E Q;refine zm [0] ?_;refine ue 1 rfl Kr (aL rfl) rfl (fun ZU => ?_) (fun ZU => ?_)
   ·refine BL [2, 3, 4, 5, 6, 7, 8, 9, 10, 11, 12, 13, 14] ?_;refine au 23 ?_;refine ae ?_;refine ZT _ _ ⟨a + 1, true, rfl, rfl, Om, E, Q, .inl rfl⟩ Om Ls
   refine zm [2, 3] ?_;refine kC 4 rfl Kr 133 rfl rfl (fp (s := 2) (j := a) e2 rfl rfl underlying56 Kr rfl Om) rfl ?_;refine zm [5] ?_;refine kC 6 rfl Kr 133 rfl rfl (ah rfl underlying5 rfl (ZB _ E 0 _ rfl)) rfl ?_;refine zm [7, 8] ?_;refine kC 9 rfl Kr 133 rfl rfl (fp (s := 2) (j := i) e1 rfl rfl underlying56 Kr rfl hi) rfl ?_;refine zm [10] ?_;refine kC 11 rfl Kr 133 rfl rfl (ah rfl underlying5 rfl (Zm _ E 0 _ rfl)) rfl ?_;refine BL [12, 13, 14] ?_;refine au 13 ?_;refine ae ?_;refine ZT _ _ ⟨a + 1, _, rfl, rfl, Om, E, Q, Gz (MR hx2) (Zo.resolve_left (by simp [ZU]))⟩ Om Ls
  refine aU ?_;refine bw rfl (fun ZV => ?_) (fun ZV => ?_)
  ·refine au 9 ?_;refine ae ?_;refine ZR _ _ ⟨i + 1, b2, rfl, rfl, Om, E, Q, Zn⟩ Om Ls
  refine aU ?_;have ho := hop i hi fun a ha => (Zo.resolve_left (by simp [ZV])) a Om;obtain ⟨bA, oA, gy, p0, p1, p2, p3, p4, p5, p6, p7, eA, hgy, hgc, _, HPk, HWy⟩ := Kc HGp (i := i) hi;obtain rfl := EK hi hgy;obtain ⟨bK, oK, cs3, ky, eK, _, hky, _, ⟨r0, r1, r2, rfl, Q0, Q1, Q2⟩, hkc⟩ := HKp.CC Om (i := i) hi;obtain rfl := IK hi hky;have ZC : ∀ W', Ext Y0 W' → ∀ j v, (eQ r0 r1 r2)[j]? = some v → W'.cell? ⟨bK, oK + i * 3 + j, none⟩ = some v := fun W' E j v hv => (Below.cell E (dR (hkc j v hv))).trans (hkc j v hv);have YV := C14.ext Q; have YU := ZP.ext Q; have YY := ZQ.ext Q;refine dA Kr 17 rfl ?_; intro ZD ex hd24;obtain ⟨E,Q,YV,YU,YY⟩ := fR ex E Q YV YU YY;have Zv := E;have ZE := Q;have YZ := YV;have Zd := YU;have Zp := YY;have X0 := Ext.refl ZD;refine zm [0, 1, 2] ?_;refine dz 3 rfl Kr (fp (s := 9) (j := i) eA rfl rfl Tn.u Kr rfl hi) rfl ?_;refine zm [4] ?_;refine dz 5 rfl Kr (ew (cs := dK p0 p1 p2 p3 (cK (ps.getD i (0, 0))).leaf.src p4 p5 p6) rfl Tn.u rfl Kr fun j v hv => by rw [Addr.add_plain]; exact hgc _ ZE j v (Bb hv)) rfl ?_;refine zm [6, 7] ?_;refine dz 8 rfl Kr (fp (s := 3) (j := i) eK rfl rfl Tn.u Kr rfl hi) rfl ?_;refine dz 9 rfl Kr (ew (cs := eQ r0 r1 r2) rfl Tn.u rfl Kr fun j v hv => by rw [Addr.add_plain]; exact ZC _ ZE j v hv) rfl ?_;refine dx (fl := [sj 14 23 46 (dP)]) rfl ?_;refine j9 10 (some 158) func12 ?_;intro _ ex exb;obtain ⟨E,Q,YV,YU,YY,X0⟩ := iz ex E Q YV YU YY X0;refine ⟨_, (wh _ (HXp.ext Q) hXs (HPk.ext Q) (df (np _)) ⟨r0, r1, r2, rfl, Bs.ext Q0 Q, Bs.ext Q1 Q, Bs.ext Q2 Q⟩ (by show (fS _).length ≤ 100; rw [dO]; omega)), ?_⟩;rintro e _ ⟨_, rfl, ZW, _, ex⟩;refine ⟨_, rfl, ex, ?_⟩;obtain ⟨E,Q,YV,YU,YY,X0⟩ := iz ex E Q YV YU YY X0;rw [show eL X (cK (ps.getD i (0, 0))) (keyOf (ps.getD i (0, 0))).1 = _ from ho] at ZW; obtain ⟨a0, a1, a2, a3, a4, a5, a6, a7, a8, a9, a10, a11, a12, a13, a14, a15, a16, ZX, rfl, Gi, Gs, Gy⟩ := ZW;refine ju (dst := some 147) 11 rfl Kr (aL rfl) rfl (aN (aa2 rfl) av) ?_;refine ju (dst := some 159) 12 rfl Kr (cM rfl rfl) rfl (aN (aa2 rfl) av) ?_;refine ju (dst := some 160) 13 rfl Kr (cM rfl rfl) rfl (aN (aa2 rfl) av) ?_;refine gR ⟨(aN (br rfl Kr) av), aa2 rfl, aa2 rfl, (aN (⟨rfl, aa2 rfl⟩) av), (aN (aQ Kr) av)⟩ Kr ?_;rintro _ _ ex ⟨⟨g23, rfl, YW⟩, Ze⟩;replace Ze := Ze g23 rfl;obtain ⟨E,Q,YV,YU,YY,X0⟩ := iz ex E Q YV YU YY X0;have Zf := dg YW rfl gA;have K23 := (xy (Gi.ext ex) Zf).and ((xU (Gs.ext ex) Zf).and (lI (Bs.ext Gy ex) Zf));refine cY 15 Kr ?_;refine er rfl (ag rfl rfl Kr YW rfl (bu rfl)) rfl ?_;rintro _ _ ⟨rfl, YW, cg⟩;replace X0 := X0.aw cg Ze;refine ⟨X0, ?_⟩;replace E := Zv.ext X0;replace Q := ZE.ext X0;replace YV := YZ.ext X0;replace YU := Zd.ext X0;replace YY := Zp.ext X0;obtain ⟨Gi, Gs, Gy⟩ := (K23.bD (aI.one cg) (by simp)).out;refine zm [16] ?_;refine dM Kr ?_;refine aU ?_;have Y1 := yk E;have lw : (kZ (ps.getD i (0, 0))).length = ZX.n := Gy.1; have lv : (kZ (ps.getD i (0, 0))).length = p7.n := HWy.1; have lz := lO (ps.getD i (0, 0));refine aD Kr 28 rfl ?_; intro wd25 ex hd25;obtain ⟨E,Q,YV,YU,YW,Y1⟩ := iz ex E Q YV YU YW Y1;refine zm [0] ?_;refine my 1 rfl (bc rfl Tn.u Tn.u (show _ = (0 : Int) from by rw [show eL X (cK (ps.getD i (0, 0))) (keyOf (ps.getD i (0, 0))).1 = _ from ho]; rfl)) ?_;refine my 2 rfl (Y.as (kg rfl rfl) (congrArg Value.bool (decide_eq_false (fun h => h rfl)))) ?_;refine zm [3, 4, 5, 6] ?_;refine aR 7 Kr ?_; refine gB rfl 164 rfl rfl func24 rfl rfl rfl (AT _ (eP.ext Gi Y1) (HIp.1.ext Q) hfI hfI) rfl ?_;rintro e _ ⟨rfl, ex⟩;refine au 1 ?_;obtain ⟨E,Q,YV,YW,Y1⟩ := fR ex E Q YV YW Y1;rw [decide_eq_true rfl];refine zm [8, 9, 10, 11, 12, 13] ?_;refine aR 14 Kr ?_; refine gB rfl 171 rfl rfl func25 rfl rfl rfl (CJ _ _ _ _ _ (Gs.ext Y1) (HTp.ext Q) (vS Om) (vS Om)) rfl ?_;rintro e _ ⟨rfl, ex⟩;refine au 1 ?_;obtain ⟨E,Q,YW,Y1⟩ := bG ex E Q YW Y1;rw [decide_eq_true rfl];refine zm [15, 16, 17, 18, 19, 20, 21] ?_;refine kC 22 rfl Kr 178 rfl rfl (fp (s := 9) (j := i) eA rfl rfl underlying58 Kr rfl hi) rfl ?_;refine zm [23] ?_;refine kC 24 rfl Kr 178 rfl rfl (ah rfl underlying23 rfl (hgc _ Q 8 _ rfl)) rfl ?_;refine aR 25 Kr ?_; refine gB rfl 178 rfl rfl func26 rfl rfl rfl (ov (c := ZX.c) (d := p7.c) (Bs.ext Gy Y1) (Bs.ext HWy Q) Om Om) rfl ?_;rintro e _ ⟨rfl, ex⟩;refine au 1 ?_;obtain ⟨E,Q⟩ := aS ex E Q;rw [decide_eq_true rfl];refine BL [26, 27] ?_;refine au 6 ?_;refine bm rfl rfl ?_;refine au 8 ?_;refine ae ?_;refine ZR _ _ ⟨i + 1, b2, rfl, rfl, Om, E, Q, Zn⟩ Om Ls
 have hth : b = true ∨ ∀ a, a < m → (ps.getD a (0, 0)).1 ≠ k1 := by rw [show m = i by omega]; exact hor
 refine aU ?_;refine af (aF (z := .int .u8 0) Tn.u Kr rfl rfl rfl rfl rfl) rfl ?_;rintro _ _ ⟨_, rfl, ZF, _, ex⟩;obtain ⟨E,Q⟩ := aS ex E Q;have Zg := aX (xs := [UInt8.ofNat k1]) (ZF.congr (CA ZK)) rfl;refine au 2 ?_;refine ak (aO rfl rfl (show _ = (((10 + k1 : Nat)) : Int) from bj Om Om)) ?_;refine aB func28 rfl (kj (10 + k1) Om _) ?_;rintro e _ ⟨_, rfl, ZG, _, ex⟩;obtain ⟨E,Q,Zg⟩ := bh ex E Q Zg;refine aU ?_;refine aB func27 rfl (wB _ Zg Om Om ZG) ?_;rintro e Zh ⟨_, _, rfl, ZY, ZZ, ex⟩;obtain ⟨E,Q⟩ := aS ex E Q;obtain ⟨i0, u0, u1, u2, u4, u5, ug, rfl, _⟩ := id ZY; obtain ⟨r0, r1, r2, rfl, _⟩ := id ZZ; have R := Ext.refl Zh;have z27 := E.size; have zQ := Q.size;refine aU ?_;intro Z0 g25 (YX : aq _ _ _ (dK ar ar ar ar 0 ar ar ar)) hg25 ex;obtain ⟨E,Q,R⟩ := bh ex E Q R;have z25 := YX.lt;refine aU ?_;intro Z1 g26 (ZH : aq _ _ _ (eQ ar ar ar)) hg26 ex;obtain ⟨E,Q,R,YX⟩ := bG ex E Q R YX;refine aU ?_;intro _ D25 cg;replace E := E.aw cg Om; replace Q := Q.aw cg Om; replace R := R.aw cg Om; replace ZH := ZH.aw cg Om; replace YX := D25.congr (cs' := dK i0 u0 u1 u2 (Oe [UInt8.ofNat k1] (pK (10 + k1))).leaf.src u4 u5 ug) rfl;refine aU ?_;intro _ D26 cg;replace E := E.aw cg Om; replace Q := Q.aw cg Om; replace R := R.aw cg Om; replace YX := YX.aw cg Om; replace ZH := D26.congr (cs' := eQ r0 r1 r2) rfl;have YY := ZQ.ext Q;have Z2 : dv Zh _ (cK (k1, 0)) := ZY;have HK3 : uF Zh _ (fS (ll (ma (k1, 0)))) _ _ := ZZ;refine aU ?_;refine aB func12 rfl (wh _ (HXp.ext Q) hXs (Z2.ext R) (df (np _)) (HK3.ext R) (by rw [dO]; omega)) ?_;rintro e _ ⟨_, rfl, G28, _, ex⟩;obtain ⟨E,Q,R,YX⟩ := bG ex E Q R YX;obtain ⟨_, _, _, _, _, _, _, _, _, _, _, _, _, _, _, _, _, _, rfl, _⟩ := G28;refine aU ?_;intro _ _ D28 Zq exA;refine aU ?_;intro ZI _ cg;have ex := exA.aw cg Zq; clear cg exA D28;obtain ⟨E,Q,R,YX⟩ := bG ex E Q R YX;have C25 := YX;have T := yk E;have HP4 := Z2.ext R;refine aU ?_;refine aE (fun n' L Zt => ∃ (i : Nat) (b3 : Bool), L = [(0, .slice A n c), (4, .slice S q e), (11, .slice Zi m c11), (15, .pointer (cf Zk)), (19, .bool b), (25, .pointer (cf g25)), (27, .int .u8 0), (29, .int .u8 (((eL X (cK (k1, 0)) (fS (ll (ma (k1, 0))))).2 : Nat) : Int)), (30, .bool b3), (31, .int .i64 (i : Int))] ∧ n' = m - i ∧ (i ≤ m ∧ Ext w Zt ∧ Ext Y0 Zt ∧ Ext ZI Zt)) _ _ ⟨0, false, rfl, rfl, Nat.zero_le _, E, Q, T⟩ Ls ?_;rintro _ n' L Zt ⟨i, b3, rfl, rfl, hi, E, Q, T⟩ Z5;refine aa1 (fun hc9 => ?_) (fun hc9 => ?_)
 ·refine aU ?_;obtain ⟨bA, oA, gy, p0, p1, p2, p3, p4, p5, p6, p7, eA, hgy, hgc, _, HPk, _⟩ := Kc HGp (i := i) Om;obtain rfl := EK Om hgy;have YX := C25.ext T;refine aD Kr 13 rfl ?_; intro wd33 ex hd33;obtain ⟨E,Q,T,YX⟩ := bG ex E Q T YX;refine zm [0] ?_;refine ue 1 rfl Kr (aL rfl) rfl (fun q33 => ?_) (fun q33 => ?_)
  ·refine BL [2, 3, 4, 5, 6, 7, 8, 9, 10, 11, 12] ?_;refine au 21 ?_;refine ae ?_;refine Z5 _ _ ⟨i + 1, true, rfl, rfl, Om, E, Q, T⟩ Om Ls
  refine zm [2, 3] ?_;refine kC 4 rfl Kr 214 rfl rfl (fp (s := 9) (j := i) eA rfl rfl underlying58 Kr rfl Om) rfl ?_;refine zm [5] ?_;refine kC 6 rfl Kr 214 rfl rfl (ew (cs := dK p0 p1 p2 p3 (cK (ps.getD i (0, 0))).leaf.src p4 p5 p6) rfl underlying29 rfl Kr fun j v hv => by rw [Addr.add_plain]; exact hgc _ Q j v (Bb hv)) rfl ?_;refine zm [8] ?_;refine aR 7 Kr ?_; refine gB rfl 214 rfl rfl func11 rfl rfl rfl (mQ _ (HPk.ext Q) (df (np _))) rfl ?_;rintro e _ ⟨_, _, rfl, R33, ex⟩;refine aU ?_;obtain ⟨E,Q,T⟩ := bh ex E Q T;have ZJ := R33.bs;refine aR 9 Kr ?_; refine gB rfl 214 rfl rfl func11 rfl rfl rfl (mQ _ (HP4.ext T) (df (np _))) rfl ?_;rintro e _ ⟨_, _, rfl, R34, ex⟩;refine aU ?_;obtain ⟨E,Q,T,ZJ⟩ := bG ex E Q T ZJ;have H34 := R34.bs;refine aR 10 Kr ?_; refine gB rfl 214 rfl rfl func26 rfl rfl rfl (ov ZJ H34 Om Om) rfl ?_;rintro e _ ⟨rfl, ex⟩;obtain ⟨E,Q,T⟩ := bh ex E Q T;refine aU ?_;refine BL [11, 12] ?_;refine au 12 ?_;refine ae ?_;refine Z5 _ _ ⟨i + 1, _, rfl, rfl, Om, E, Q, T⟩ Om Ls
 refine aU ?_;refine aB func29 rfl (yR (c := e) (Bs.ext HS E) Om) ?_;rintro e _ ⟨_, _, rfl, ⟨Zr, _⟩, _, ex⟩;obtain ⟨E,Q⟩ := aS ex E Q;refine aU ?_;refine aB func30 rfl (Lx A none n c 0 0 js [] _ (Bs.ext HA E) Om (Bs.nil _ _) Om) ?_;rintro e _ ⟨_, _, _, _, rfl, _, _, ex⟩;obtain ⟨E,Q,Zr⟩ := bh ex E Q Zr;have YU := ZP.ext Q;refine au 11 ?_;refine ak (bc rfl Tn.u Tn.u (show _ = (0 : Int) from rfl)) ?_;refine au 3 ?_;refine qL 238 rfl rfl (aL rfl) rfl (fun Z6 => ?_) (fun Z6 => ?_)
 ·refine aU ?_;refine eT 249 rfl rfl func31 rfl rfl rfl (mN _ ⟨HIp.1.ext Q, HIp.2⟩ hsmI Om Om Zr Om) rfl ?_;rintro e Y2 ⟨rfl, ex⟩;refine au 1 ?_;replace E := E.ext ex;rw [hsd];refine aU ?_;exact aa4 rfl ⟨rfl, E⟩
 refine au 2 ?_;refine qL 238 rfl rfl (aL rfl) rfl (fun q37 => ?_) (fun q37 => ?_)
 ·refine aU ?_;refine eT 249 rfl rfl func31 rfl rfl rfl (mN _ ⟨HIp.1.ext Q, HIp.2⟩ hsmI Om Om Zr Om) rfl ?_;rintro e Y2 ⟨rfl, ex⟩;refine au 1 ?_;replace E := E.ext ex;rw [hsd];refine aU ?_;exact aa4 rfl ⟨rfl, E⟩
 refine au 1 ?_;have e7 := hno k1 (fS (ll (ma (k1, 0)))) ZK (hth.resolve_left (by simp [Z6]));refine qG 243 (bc rfl Tn.u Tn.u (show _ = (7 : Int) from by rw [e7]; rfl)) ?_;refine aU ?_;refine eT 249 rfl rfl func31 rfl rfl rfl (mN _ ⟨HIp.1.ext Q, HIp.2⟩ hsmI Om Om Zr Om) rfl ?_;rintro e Y2 ⟨rfl, ex⟩;refine au 1 ?_;replace E := E.ext ex;rw [hsd];refine aU ?_;exact aa4 rfl ⟨rfl, E⟩
end Go.Proofs.YtgfafidlkldeaaaGreat
