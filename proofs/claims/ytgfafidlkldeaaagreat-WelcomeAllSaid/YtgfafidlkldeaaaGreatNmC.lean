/- The first three bytes of the 256 packages' names. No program in sight. -/
import Derived.Test.YtgfafidlkldeaaaGreatWlK
import Derived.Test.YtgfafidlkldeaaaGreatAu
import Derived.Test.YtgfafidlkldeaaaGreatSecE
import Derived.Test.YtgfafidlkldeaaaGreatMsW
import Derived.Test.YtgfafidlkldeaaaGreatWlM
import Derived.Test.YtgfafidlkldeaaaGreatNt
import Derived.Test.YtgfafidlkldeaaaGreatSl
import Derived.Test.YtgfafidlkldeaaaGreatChunkA
import Derived.Test.YtgfafidlkldeaaaGreatAeD
set_option linter.unusedVariables false
set_option linter.unusedSimpArgs false
set_option maxHeartbeats 4000000
set_option maxRecDepth 4000
namespace Go.Proofs.YtgfafidlkldeaaaGreat
open Go.RowKit Tryz
attribute [local irreducible] Ef WC WF WG WJ WK WL WM WN WQ WR Y cu db iC lW rQ
variable {cs ds es : Array Value} {h h0 h1 h2 h4 h5 : Hd} {ident ini j l nm seed t y : Lb} {ts : List (List UInt8)} {S : List Nat} {M N a b base c fuel n s x : Nat} {A : Oa} {W' w wq : aa9} {i : fK}
section
open Wire Nd Hk
theorem It {α : Type} (p : α → Bool) (l : List α) (i : Nat) (x : α) (hx : l[i]? = some x) (h : (l.take i).find? p = none) (hp : ¬ p x = true) : (l.take (i + 1)).find? p = none := by rw [List.take_add_one, hx, List.find?_append, h, Option.none_or];simp [hp]
theorem Jf {x : nG} (w : aa9) (H : tf w cs x) (hn : x.guests.length ≤ 1000) (HA : Bs w A n nm) (hA : n ≤ 1000) (hs : ∀ g ∈ x.guests, g.ref.length ≤ 1000) :
  Ct 37 #[.agg cs, .slice A n c] w fun e w' => ∃ a b : Hd, e = .returned (.tuple #[.agg (gS a b), .bool (x.guests.find? (fun g => decide (g.ref = nm))).isSome]) ∧ (∀ g, x.guests.find? (fun g => decide (g.ref = nm)) = some g → qP w' a g.enc ∧ qP w' b g.box ∧ b.n ≤ b.c) ∧ Ext w w' := by
 have HW := H;obtain ⟨h0, h1, rfl, a0, a1⟩ := H;have l0 := a0.1;have E := Ext.refl w
 obtain ⟨p, hp⟩ : ∃ p : nJ → Bool, p = fun g => decide (g.ref = nm) := ⟨_, rfl⟩
 rw [← hp];refine cF (s := 2) 23 func37 rfl rfl rfl underlying35 rfl Kr rfl ?_;intro _ aa4;refine aU ?_;intro _ _ B2 _ ex;have Za := B2.lt;replace E := E.ext ex;refine aU ?_;intro _ g4 B4 _ ex;obtain ⟨E,B2⟩ := aS ex E B2;refine aU ?_;have YW : w.heap.size ≤ g4 := Om
 refine aE (fun n' L wr => ∃ i : Nat, L = [(1, .slice A n c), (4, .pointer (cf g4)), (9, .slice h0.A h0.n h0.c), (10, .int .i64 (h0.n : Int)), (11, .int .i64 (i : Int))] ∧ n' = h0.n - i ∧ (i ≤ h0.n ∧ Ext w wr ∧ aq wr g4 35 #[.slice none 0 0, .slice none 0 0] ∧ (x.guests.take i).find? p = none)) _ _ ⟨0, rfl, rfl, Nat.zero_le _, E, B4, rfl⟩ Ls ?_;rintro _ n' L wr ⟨i, rfl, rfl, _, E, B4, hno⟩ YX;refine aa1 (fun YY => ?_) (fun YY => ?_)
 ·obtain ⟨b1, o1, Zb, y, e1, _, hx, hcz, hR, hcx⟩ := (a0.ext E (fun _ _ h => tM.ext h E)).CC Om (i := i) Om;obtain ⟨⟨f0, f1, f2, rfl, YZ, Y0, Y2⟩, Y3⟩ := hR;have q2 : f2.n ≤ f2.c := Y3 _ _ _ rfl;have v0 : Bs wr f0.A f0.n y.ref := YZ;have v1 : Bs wr f1.A f1.n y.enc := Y0;have v2 : Bs wr f2.A f2.n y.box := Y2;refine au 6 ?_;refine ak (fp (s := 3) (j := i) e1 rfl rfl Tn.u Kr rfl Om) ?_;refine ak (ew (cs := eQ f0 f1 f2) rfl Tn.u rfl Kr fun j v hv => by rw [Addr.add_plain]; exact hcx j v hv) ?_;refine aU ?_;intro _ _ D7 YU exA;refine aU ?_;intro _ B7 cg;have ex := exA.aw cg YU; clear cg exA D7;obtain ⟨E,B4,v0,v1,v2⟩ := fR ex E B4 v0 v1 v2;replace B7 := B7.congr (cs' := eQ f0 f1 f2) rfl;refine aU ?_;refine aB func89 rfl (mS f0.A A f0.n f0.c n c _ _ _ v0 (HA.wk E)) ?_;rintro e _ ⟨rfl, ex⟩;obtain ⟨E,B4,v1,v2,B7⟩ := fR ex E B4 v1 v2 B7;refine aa1 (fun YV => ?_) (fun YV => ?_)
  ·refine aU ?_;intro w6 D4 cg;have J1 := (lI v1 (dg B4 rfl gA)).bD (aI.one cg); have J2 := (lI v2 (dg B4 rfl gA)).bD (aI.one cg); replace E := E.aw cg YW; replace B4 := D4.congr (cs' := gS f1 f2) rfl;refine aU ?_;refine aa4 rfl rfl B4 rfl ?_;have hf := qy p x.guests i y hx hno (by rw [hp]; exact decide_eq_true YV);rw [hf];exact ⟨f1, f2, rfl, (fun g hg => by injection hg with hg; subst hg; exact ⟨J1.out, J2.out, q2⟩), E⟩
  refine au 7 ?_;refine ae ?_;refine YX _ _ ⟨i + 1, rfl, rfl, Om, E, B4, It p x.guests i y hx hno (by rw [hp]; simpa using YV)⟩ Om Ls
 have hnone : x.guests.find? p = none := by rw [List.take_of_length_le Om] at hno; exact hno
 refine au 7 ?_;refine ak (aA rfl (cells := gS ar ar) Kr) ?_;refine aU ?_;intro w6 D4 cg;replace E := E.aw cg YW; replace B4 := D4.congr (cs' := gS ar ar) rfl;refine aU ?_;refine aa4 rfl rfl B4 rfl ?_;rw [hnone]; exact ⟨ar, ar, rfl, (fun g hg => by cases hg), E⟩
theorem CS (A B C D : Oa) (n c m d k q z v : Nat) (xs ys is bx : Lb) (w : aa9) (HA : Bs w A n xs) (hn : n ≤ 1000) (HB : Bs w B m ys) (hm : m ≤ 1000) (HC : Bs w C k is) (hk : k ≤ 8000)
  (HD : Bs w D z bx) (hz : z ≤ 80000) (hzv : z ≤ v) :
  Ct 90 #[.slice A n c, .slice B m d, .slice C k q, .slice D z v, .slice none 0 0] w fun e w' => ∃ A1 k1 c1, e = .returned (.tuple #[.slice A1 k1 c1, .int .u8 ((op xs ys is bx []).2 : Int)]) ∧ Bs w' A1 k1 (op xs ys is bx []).1 ∧ k1 ≤ z ∧ k1 ≤ c1 ∧ Ext w w' := by
 have E := Ext.refl w;have hbl := HD.1;refine aZ 42 func90 ?_;intro _ aa4;refine aU ?_;refine aB func165 rfl (Az A B n c m d xs ys _ HA hn HB hm) ?_;rintro e _ ⟨A1, k1, c1, rfl, H1, _, ex⟩;obtain ⟨HC,HD,E⟩ := bh ex HC HD E;refine aa1 (fun YW => ?_) (fun YW => ?_)
 ·refine aU ?_;exact aa4 rfl rfl ⟨none, 0, 0, by rw [op, if_pos Om], by rw [op, if_pos Om]; exact Bs.nil _ _, Om, Om, E⟩
 have hop : op xs ys is bx [] = ob (Gm.Ca (zW (yq xs ys).1 is) (yT (yq xs ys).1 is) bx []) := by rw [op, if_neg Om]
 obtain ⟨o, ho⟩ : ∃ o, o = Gm.Ca (zW (yq xs ys).1 is) (yT (yq xs ys).1 is) bx [] := ⟨_, rfl⟩
 have hol : (o.getD []).length ≤ z := by
  rw [ho]; unfold Gm.Ca;split
  ·exact Nat.zero_le _
  split
  ·show (Gm.FO _ _ _).length ≤ z;rw [Gm.eU, List.length_take]; omega
  exact Nat.zero_le _
 rw [← ho] at hop;refine aU ?_;refine aB func166 rfl (wi A1 C k1 c1 k q _ is _ H1 Om HC hk) ?_;rintro e _ ⟨_, _, _, _, rfl, H3, H4, _, _, ex⟩;obtain ⟨HD,E⟩ := aS ex HD E;refine aU ?_;intro _ _ YX YU exA;refine aU ?_;intro _ _ cg;have ex := exA.aw cg YU; clear cg exA YX;obtain ⟨HD,E,H3,H4⟩ := bG ex HD E H3 H4;refine aU ?_;refine aB func42 rfl (vy _ H3 H4 HD Om hzv (Bs.nil _ _) Om Om) ?_;rintro e _ ⟨A5, k5, c5, rfl, R5, ex⟩;refine au 1 ?_;replace E := E.ext ex;rw [← ho] at R5 ⊢; have H5 := R5.bs; have YY := H5.1;refine aU ?_;refine bw rfl (fun YV => ?_) (fun YV => ?_)
 ·refine aU ?_;refine aa4 rfl rfl ?_;have : o.isSome = false := by simpa using YV
  have hn : o = none := by cases o with | none => rfl | some x => cases this
  subst hn;rw [hop];exact ⟨none, 0, 0, rfl, Bs.nil _ _, Om, Om, E⟩
 refine aU ?_;refine aa4 rfl rfl ?_;have hs : o.isSome = true := by simpa using YV
 rw [hop];exact ⟨A5, k5, c5, by unfold ob; rw [if_pos hs]; rfl, H5, Om, R5.cap, E⟩
theorem Cs (A B C D : Oa) (lb : ByteArray) (n c m d k q z v : Nat) (xs ys cs bx : Lb) (w : aa9) (hlb : lb.size ≤ 100) (HA : Bs w A n xs) (hn : n ≤ 1000) (HB : Bs w B m ys) (hm : m ≤ 1000) (HC : Bs w C k cs) (hk : k ≤ 6000)
  (HD : Bs w D z bx) (hz : z ≤ 80000) (hzv : z ≤ v) :
  Ct 38 #[.slice A n c, .slice B m d, .string lb, .slice C k q, .slice D z v] w fun e w' => ∃ A1 k1 c1, e = .returned (.tuple #[.slice A1 k1 c1, .int .u8 ((op xs ys (info lb cs) bx []).2 : Int)]) ∧ Bs w' A1 k1 (op xs ys (info lb cs) bx []).1 ∧ k1 ≤ z ∧ k1 ≤ c1 ∧ (op xs ys (info lb cs) bx []).2 < 256 ∧ Ext w w' := by
 have E := Ext.refl w
 have YU : (op xs ys (info lb cs) bx []).2 < 256 := by
  unfold op; split
  ·exact JG _ _
  unfold ob; split
  ·show 0 < 256; omega
  show 11 < 256; omega
 refine aZ 21 func38 ?_;intro _ aa4;refine aU ?_;refine aB func91 rfl (nT lb C k q cs _ hlb HC Om) ?_;rintro e _ ⟨A1, k1, c1, rfl, H1, _, ex⟩;obtain ⟨HA,HB,HD,E⟩ := bG ex HA HB HD E;refine aU ?_;refine aB func90 rfl (CS A B A1 D n c m d k1 c1 z v xs ys _ bx _ HA hn HB hm H1 Om HD Om hzv) ?_;rintro e _ ⟨A2, k2, c2, rfl, H2, YV, YW, ex⟩;replace E := E.ext ex;refine aU ?_;exact aa4 rfl rfl ⟨A2, k2, c2, rfl, H2, YV, YW, YU, E⟩
theorem yG {α : Type} {z : α} {p : α × Wire.St} {ok : Bool} (h : (M20.fx z p ok).2 = 0) : ok = true ∧ (M20.fx z p ok).1 = p.1 := by
 unfold M20.fx at h ⊢;by_cases h1 : Wire.jv p.2 ≠ 0
 ·rw [if_pos h1] at h; exact absurd h h1
 rw [if_neg h1] at h ⊢
 cases ok with
 | true => exact ⟨rfl, rfl⟩
 | false => exact absurd (show (3 : Nat) = 0 from h) Om
theorem Ua (h : (M20.fY t).2 = 0) : lT (M20.fY t).1.1 (M20.fY t).1.2.2 := by obtain ⟨h1, h2⟩ := yG h;have := (aa2 h1).1;rw [show (M20.fY t).1 = _ from h2]; exact this
theorem T0 (h : (M20.eO t).2 = 0) : dk (M20.eO t).1 := by obtain ⟨h1, h2⟩ := yG h;rw [show (M20.eO t).1 = _ from h2]; exact aa2 h1
theorem yz (h : dk i) (he : i.ctx.ep < 18446744073709551616) : i.ctx.Small := ⟨by have := h.1; omega, by have := h.2.1; omega, by have := h.2.2.1; omega, he⟩
theorem OS (w : aa9) : gU w (Jv ar 0 ar ar) Ctx.zero := JS.at ⟨ar, ar, ar, rfl, (by decide), Bs.nil _ _, Bs.nil _ _, Bs.nil _ _⟩
theorem Cn : Ctx.zero.Small := ⟨Nat.zero_le _, Nat.zero_le _, Nat.zero_le _, by decide⟩
theorem rG (j : Lb) (c : Ctx) : ((dD j c).getD 8 []).length = 32 := dL _ _ _ _
theorem qu (j : Lb) (c : Ctx) : (dD j c).getD 1 [] = ph j := rfl
theorem NV {x : nG} {p : Pack} (h : ¬ dn p) : eL x p ini = (sJ.zero, 3) := by unfold eL; rw [if_pos h]
theorem tG {x : nG} {p : Pack} (h : dn p) : eL x p ini = Vl x ini (x.guests.find? fun g => decide (g.ref = dW p)) := by unfold eL; rw [if_neg (fun h' => h' h)]
theorem pC (p : Pack) : (dW p).length = 32 := Sha.bT _
theorem TU {k n b m : Lb} (h : Gm.Ca k n b m = some t) : t.length ≤ b.length := by
 unfold Gm.Ca at h;split at h
 ·cases h
 split at h
 ·injection h with h
  rw [← h, Gm.eU, List.length_take]; omega
 cases h
theorem wh {x : nG} {p : Pack} {b1 b2 : Lb} (w : aa9) (HW : tf w cs x) (hx : x.Small) (HP : dv w ds p) (hp : p.Small) (HK : uF w es ini b1 b2) (hini : ini.length ≤ 100) :
  Ct 12 #[.agg cs, .agg ds, .agg es] w fun e w' => ∃ cs', e = .returned (.tuple #[.agg cs', .int .u8 (((eL x p ini).2 : Nat) : Int)]) ∧ nQ w' cs' (eL x p ini).1 ∧ (eL x p ini).2 < 256 ∧ Ext w w' := by
 have ZA := HW;obtain ⟨h0, h1, rfl, a0, a1, ac⟩ := ZA;have ZB := HP;obtain ⟨i, p0, p1, p2, p4, p5, pg, rfl, hsrc, _⟩ := ZB;have ZC := HK;obtain ⟨k0, k1, k2, rfl, Zr, ZW, ZX⟩ := ZC;have ZY := Zr.1;have ZZ := a1.1;obtain ⟨Z0, Zi, Z1⟩ := hx
 obtain ⟨o, ho⟩ : ∃ o, o = x.guests.find? (fun g => decide (g.ref = dW p)) := ⟨_, rfl⟩
 have F := aI.refl [] w;refine cF (s := 20) 108 func12 rfl rfl rfl underlying46 rfl Kr rfl ?_;intro _ aa4;refine aU ?_;intro _ _ B3 _ ex;have Z2 := B3.lt;replace F := F.ext ex;refine aU ?_;intro _ _ B4 _ ex;have Z5 := B4.lt;obtain ⟨F,B3⟩ := aS ex F B3;refine aU ?_;intro _ _ B5 _ ex;have Z6 := B5.lt;obtain ⟨F,B3,B4⟩ := bh ex F B3 B4;refine aU ?_;intro _ Y0 B6 Y2 ex;replace F := F.grow ex Y2;replace B3 := B3.grow ex Y2;replace B4 := B4.grow ex Y2;replace B5 := B5.grow ex Y2;refine aU ?_;have X1 := F.bF So;refine aB func36 rfl (fI _ (HP.ext X1) hp) ?_;rintro e _ ⟨A8, k8, _, z8, rfl, T8, _, ex⟩;obtain ⟨F,B3,B5,B6⟩ := bG ex F B3 B5 B6;refine aa1 (fun ZD => ?_) (fun ZD => ?_)
 ·have hno : ¬ dn p := fun h => by have := (T8.1 h).1; omega
  have ZE : z8 = 3 := (T8.2 hno).1;refine au 2 ?_;refine ak (aA rfl (cells := dP) Kr) ?_;refine aU ?_;intro _ D cg;have ex := aI.one cg;clear cg;replace F := F.bD ex;replace B6 := D; clear D;replace B6 := B6.congr (cs' := dP) rfl;refine aU ?_;refine aa4 rfl rfl B6 rfl ?_;subst ZE; rw [NV hno]; exact ⟨dP, rfl, nQ.zero _, (by first | decide | omega | (dsimp only; omega) | exact (show (7 : Nat) < 256 by decide) | exact (show (11 : Nat) < 256 by decide)), F.bF So⟩
 have okp : dn p := Classical.byContradiction fun h => by have := (T8.2 h).1; omega
 have H8 : Bs _ A8 k8 (dW p) := (T8.1 okp).2;have Z7 : k8 = 32 := by rw [← H8.1]; exact pC p
 have X4 := F.bF So;have hwo := tG (x := x) (ini := ini) okp;rw [← ho] at hwo;refine aU ?_;refine aB func37 rfl (Jf _ (HW.ext X4) Om H8 Om (fun g hg => by have := (Zi g hg).1; omega)) ?_;rintro e w2 ⟨fa, fb, rfl, hab, ex⟩;refine au 1 ?_;obtain ⟨F,B3,B5,B6⟩ := bG ex F B3 B5 B6;rw [← ho] at hab ⊢; have C2 := aI.refl [] w2;refine aU ?_;intro _ YZ YW YX ex;have Zj : Y0 < YZ := Nat.lt_of_lt_of_le B6.lt YX;replace F := F.grow ex YX;replace B3 := B3.grow ex YX;replace B5 := B5.grow ex YX;replace B6 := B6.grow ex YX;replace C2 := C2.grow ex YX;refine aU ?_;intro _ D cg;have ex := aI.one cg;clear cg;obtain ⟨F,B3,B5,B6,C2⟩ := vf ex F B3 B5 B6 C2;replace YW := D; clear D;replace YW := YW.congr (cs' := gS fa fb) rfl;refine au 5 ?_;by_cases hso : o = none
 ·subst hso;refine au 5 ?_;refine bS rfl rfl ?_;refine au 2 ?_;refine ak (aA rfl (cells := dP) Kr) ?_;refine aU ?_;intro _ D cg;have ex := aI.one cg;clear cg;replace F := F.bD ex;replace B6 := D; clear D;replace B6 := B6.congr (cs' := dP) rfl;refine aU ?_;refine aa4 rfl rfl B6 rfl ?_;rw [hwo]; exact ⟨dP, rfl, nQ.zero _, (by first | decide | omega | (dsimp only; omega) | exact (show (7 : Nat) < 256 by decide) | exact (show (11 : Nat) < 256 by decide)), F.bF So⟩
 obtain ⟨gg, rfl⟩ : ∃ g, o = some g := by
  cases o with
  | none => exact absurd rfl hso
  | some t => exact ⟨t, rfl⟩
 refine au 5 ?_;refine bm rfl rfl ?_;refine au 12 ?_;obtain ⟨ga, gb, hgc⟩ := hab gg rfl;have hgm : gg ∈ x.guests := List.mem_of_find?_eq_some ho.symm;have hgs := Zi gg hgm;have XC := C2.bF So;have X7 := F.bF So;have lga := (show Bs _ _ _ _ from ga).1;have lgb := (show Bs _ _ _ _ from gb).1;refine aB func38 rfl (Cs k0.A fa.A h1.A fb.A tY k0.n k0.c fa.n fa.c h1.n h1.c fb.n fb.c ini gg.enc x.info gg.box _ wF (Bs.ext Zr X7) Om (Bs.ext ga XC) (by have := hgs.2.1; omega) (Bs.ext a1 X7) Om (Bs.ext gb XC) (by have := hgs.2.2; omega) hgc) ?_;rintro e _ ⟨_, _, _, rfl, Zs, _, Zk, _, ex⟩;obtain ⟨F,B3,B6,YW⟩ := bG ex F B3 B6 YW;refine aa1 (fun ZF => ?_) (fun ZF => ?_)
 ·have e9 : eL x p ini = (sJ.zero, (op ini gg.enc (Hk.info tY x.info) gg.box []).2) := hwo.trans (show Ev x ini gg = _ from by unfold Ev; rw [if_pos Om]);refine au 2 ?_;refine ak (aA rfl (cells := dP) Kr) ?_;refine aU ?_;intro _ D cg;have ex := aI.one cg;clear cg;replace F := F.bD ex;replace B6 := D; clear D;replace B6 := B6.congr (cs' := dP) rfl;refine aU ?_;refine aa4 rfl rfl B6 rfl ?_;rw [e9]; exact ⟨dP, rfl, nQ.zero _, (by first | decide | omega | (dsimp only; omega) | exact (show (7 : Nat) < 256 by decide) | exact (show (11 : Nat) < 256 by decide)), F.bF So⟩
 refine au 3 ?_;have Zl : eL x p ini = yU x (op ini gg.enc (Hk.info tY x.info) gg.box []).1 := hwo.trans (show Ev x ini gg = _ from by unfold Ev; rw [if_neg Om])
 obtain ⟨tx, htx⟩ : ∃ t, t = (op ini gg.enc (Hk.info tY x.info) gg.box []).1 := ⟨_, rfl⟩
 rw [← htx] at Zl Zs;have Zt := (Zi gg (List.mem_of_find?_eq_some ho.symm)).2.2;refine aU ?_;refine aB func39 rfl (uT _ Zs Zk Om) ?_;rintro e _ ⟨hj, hy, rfl, Hj, Hy, _, ex⟩;obtain ⟨F,B3,B6,YW⟩ := bG ex F B3 B6 YW;have Kj := lI (S := [YZ, Y0]) Hj (dg YW rfl (dg B6 rfl gA)); have Ky := lI (S := [YZ, Y0]) Hy (dg YW rfl (dg B6 rfl gA)); have lj := Hj.1; have ly := Hy.1;refine aa1 (fun ZG => ?_) (fun ZG => ?_)
 ·have ZH : eL x p ini = (sJ.zero, (M20.fY tx).2) := by rw [Zl]; unfold yU; rw [if_pos Om]
  refine au 2 ?_;refine ak (aA rfl (cells := dP) Kr) ?_;refine aU ?_;intro _ D cg;have ex := aI.one cg;clear cg;replace F := F.bD ex;replace B6 := D; clear D;replace B6 := B6.congr (cs' := dP) rfl;refine aU ?_;refine aa4 rfl rfl B6 rfl ?_;rw [ZH]; exact ⟨dP, rfl, nQ.zero _, (by first | decide | omega | (dsimp only; omega) | exact (show (7 : Nat) < 256 by decide) | exact (show (11 : Nat) < 256 by decide)), F.bF So⟩
 have Zu : eL x p ini = PO x (M20.fY tx).1.1 (M20.fY tx).1.2.2 := by rw [Zl]; unfold yU; rw [if_neg Om]
 have hok := Ua (t := tx) Om
 obtain ⟨jj, hjj⟩ : ∃ j, j = (M20.fY tx).1.1 := ⟨_, rfl⟩
 obtain ⟨yy, hyy⟩ : ∃ y, y = (M20.fY tx).1.2.2 := ⟨_, rfl⟩
 rw [← hjj, ← hyy] at Zu hok;rw [← hjj] at Kj lj;rw [← hyy] at Ky ly;have ZI := hok.1
 obtain ⟨oo, hoo⟩ : ∃ o, o = Gm.Ca (Kdf.label (ph jj) uz.data.toList [] 16) (Kdf.label (ph jj) jt.data.toList [] 12) x.info [] := ⟨_, rfl⟩
 have Zc : eL x p ini = U0 x jj yy oo := by rw [Zu]; unfold PO; rw [← hoo]
 refine au 5 ?_;refine ak (aA rfl (cells := Jv ar 0 ar ar) Kr) ?_;refine aB func41 rfl (Fh hj.A hj.n hj.c jj _ Ctx.zero _ Kj.out Om (OS _) Cn) ?_;rintro e _ ⟨ZJ, rfl, ZK, ex⟩;obtain ⟨F,B3,B6,YW,Kj,Ky⟩ := iz ex F B3 B6 YW Kj Ky;refine aU ?_;refine aB func40 rfl (vT ZJ _ _ ZK (by rw [qu]; unfold ph; rw [dL]; omega)) ?_;rintro e _ ⟨_, _, _, _, rfl, Zv, Zw, ex⟩;obtain ⟨F,B3,B6,YW,Kj,Ky⟩ := iz ex F B3 B6 YW Kj Ky;rw [qu] at Zv Zw;refine aU ?_;have ZL := F.bF So;refine aB func42 rfl (vy _ Zv Zw (Bs.ext a1 ZL) Om ac (Bs.nil _ none) (Nat.zero_le _) (Nat.zero_le _)) ?_;rintro e _ ⟨_, ZM, _, rfl, Zb, ex⟩;refine au 1 ?_;obtain ⟨F,B6,YW,Kj,Ky⟩ := fR ex F B6 YW Kj Ky;rw [← hoo] at Zb ⊢;refine au 9 ?_;by_cases hsp : oo = none
 ·subst hsp;refine au 5 ?_;refine bS rfl rfl ?_;refine au 2 ?_;refine ak (aA rfl (cells := dP) Kr) ?_;refine aU ?_;intro _ D cg;have ex := aI.one cg;clear cg;replace F := F.bD ex;replace B6 := D; clear D;replace B6 := B6.congr (cs' := dP) rfl;refine aU ?_;refine aa4 rfl rfl B6 rfl ?_;rw [Zc]; exact ⟨dP, rfl, nQ.zero _, (by first | decide | omega | (dsimp only; omega) | exact (show (7 : Nat) < 256 by decide) | exact (show (11 : Nat) < 256 by decide)), F.bF So⟩
 obtain ⟨tt, rfl⟩ : ∃ t, oo = some t := by
  cases oo with
  | none => exact absurd rfl hsp
  | some t => exact ⟨t, rfl⟩
 replace Zb : Row _ _ _ _ _ _ (tt.map bv) := Zb;refine au 5 ?_;refine bm rfl rfl ?_;have Z8 := Zb.bs.1;have Zx : eL x p ini = vV x jj yy tt := Zc
 have Zm : ZM ≤ 1048576 := by have := TU (Eq.symm hoo);omega
 refine aU ?_;refine aB func43 rfl (Hp _ Zb.bs Zb.cap Zm) ?_;rintro e w8 ⟨_, rfl, HI, _, ex⟩;obtain ⟨F,B6,YW,Kj,Ky⟩ := fR ex F B6 YW Kj Ky;obtain ⟨i0, i1, i2, i3, i4, rfl, hep, hfz, q0, q1, q2, q3, q4⟩ := HI; have Zy : eP w8 (kA i0 (M20.eO tt).1.ctx.ep i1 i2 i3 (M20.eO tt).1.frm i4) (M20.eO tt).1 := ⟨i0, i1, i2, i3, i4, rfl, hep, hfz, q0.1, q1.1, q2.1, q3.1, q4.1⟩; have KI := xy (S := [YZ, Y0]) Zy (dg YW rfl (dg B6 rfl gA)); have KT := lI (S := [YZ, Y0]) q3.1 (dg YW rfl (dg B6 rfl gA)); have KU := lI (S := [YZ, Y0]) q2.1 (dg YW rfl (dg B6 rfl gA)); clear Zy q0 q1 q2 q3 q4;refine aU ?_;intro _ Y3 YY YU ex;have Zn : Y0 < Y3 := Nat.lt_of_lt_of_le B6.lt YU;have Zg : YZ < Y3 := Nat.lt_of_lt_of_le YW.lt YU;replace F := F.grow ex YU;replace B6 := B6.grow ex YU;replace YW := YW.grow ex YU;replace Kj := Kj.grow ex YU;replace Ky := Ky.grow ex YU;replace KI := KI.grow ex YU;replace KT := KT.grow ex YU;replace KU := KU.grow ex YU;refine aU ?_;intro _ D cg;have ex := aI.one cg;clear cg;obtain ⟨F,B6,YW,Kj,Ky,KI,KT,KU⟩ := zO ex F B6 YW Kj Ky KI KT KU;replace YY := D; clear D;replace YY := YY.congr (cs' := kA i0 (M20.eO tt).1.ctx.ep i1 i2 i3 (M20.eO tt).1.frm i4) rfl;refine aa1 (fun ZN => ?_) (fun ZN => ?_)
 ·have ZO : eL x p ini = (sJ.zero, (M20.eO tt).2) := by rw [Zx]; unfold vV; rw [if_pos Om]
  refine au 2 ?_;refine ak (aA rfl (cells := dP) Kr) ?_;refine aU ?_;intro _ D cg;have ex := aI.one cg;clear cg;replace F := F.bD ex;replace B6 := D; clear D;replace B6 := B6.congr (cs' := dP) rfl;refine aU ?_;refine aa4 rfl rfl B6 rfl ?_;rw [ZO]; exact ⟨dP, rfl, nQ.zero _, (by first | decide | omega | (dsimp only; omega) | exact (show (7 : Nat) < 256 by decide) | exact (show (11 : Nat) < 256 by decide)), F.bF So⟩
 have hz : (M20.eO tt).2 = 0 := Om
 have hoi := T0 hz
 obtain ⟨ii, hii⟩ : ∃ i, i = (M20.eO tt).1 := ⟨_, rfl⟩
 rw [← hii] at hoi KI YY hep KT KU;have hsm := yz hoi hep;have Zz : eL x p ini = if ii.tag ≠ Mac.tag ((dD jj ii.ctx).getD 8 []) ii.ctx.trans then (sJ.zero, 16) else (⟨ii, dD jj ii.ctx, yy⟩, 0) := by rw [Zx]; unfold vV; rw [if_neg Om, ← hii]
 refine aU ?_;refine aB func41 rfl (Fh hj.A hj.n hj.c jj _ ii.ctx _ Kj.out Om (mV.ctx KI.out).at hsm) ?_;rintro e _ ⟨_, rfl, Zo, ex⟩;obtain ⟨F,B6,YW,Ky,KI,KT,KU,YY⟩ := GC ex F B6 YW Ky KI KT KU YY;obtain ⟨s0, s1, s2, s3, s4, s5, s6, s7, s8, s9, Zd, Ze, rfl⟩ := Zo.form; have KS := xU (S := [Y3, YZ, Y0]) Zo (dg YY rfl (dg YW rfl (dg B6 rfl gA))); clear Zo;refine aU ?_;intro _ Zf Za YV ex;have Zp : Y0 < Zf := Nat.lt_of_lt_of_le B6.lt YV;have Zh : Y3 < Zf := Nat.lt_of_lt_of_le YY.lt YV;replace F := F.grow ex YV;replace B6 := B6.grow ex YV;replace Ky := Ky.grow ex YV;replace KI := KI.grow ex YV;replace KT := KT.grow ex YV;replace KU := KU.grow ex YV;replace YY := YY.grow ex YV;replace KS := KS.grow ex YV;refine aU ?_;intro _ D cg;have ex := aI.one cg;clear cg;obtain ⟨F,B6,Ky,KI,KT,KU,YY,KS⟩ := zO ex F B6 Ky KI KT KU YY KS;replace Za := D; clear D;replace Za := Za.congr (cs' := wR s0 s1 s2 s3 s4 s5 s6 s7 s8 s9 Zd Ze) rfl;refine aU ?_;refine aD Kr 9 rfl ?_; intro ZP ex ZQ;obtain ⟨F,B6,Ky,KI,KT,KU,YY,KS,Za⟩ := uX ex F B6 Ky KI KT KU YY KS Za;refine zm [0, 1, 2, 3, 4, 5] ?_;have l3 := KT.out.1;have l2' := KU.out.1;have ht1 := hoi.2.2.2.1;have ht2 := hoi.2.2.1;refine bC 6 rfl func45 rfl (Nl (wR s0 s1 s2 s3 s4 s5 s6 s7 s8 s9 Zd Ze) (dD jj ii.ctx) i2.A i2.n i2.c ii.ctx.trans _ KS.out (by rw [rG]; omega) KU.out Om) ?_;rintro e _ ⟨ZR, ZS, rfl, ZT, ex⟩;obtain ⟨F,B6,Ky,KI,KT,YY,KS,Za⟩ := GC ex F B6 Ky KI KT YY KS Za;refine aU ?_;refine bC 7 rfl func44 rfl (zN i3.A ZR i3.n 32 i3.c ZS ii.tag _ _ KT.out ZT Om Om) ?_;rintro e _ ⟨rfl, ex⟩;obtain ⟨F,B6,Ky,KI,YY,KS,Za⟩ := iW ex F B6 Ky KI YY KS Za;refine zm [8] ?_;refine bw rfl (fun Zq => ?_) (fun Zq => ?_)
 ·have hne : ii.tag ≠ Mac.tag ((dD jj ii.ctx).getD 8 []) ii.ctx.trans := by simpa using Zq
  have ZU : eL x p ini = (sJ.zero, 16) := Zz.trans (if_pos hne);refine au 2 ?_;refine ak (aA rfl (cells := dP) Kr) ?_;refine aU ?_;intro _ D cg;have ex := aI.one cg;clear cg;replace F := F.bD ex;replace B6 := D; clear D;replace B6 := B6.congr (cs' := dP) rfl;refine aU ?_;refine aa4 rfl rfl B6 rfl ?_;rw [ZU]; exact ⟨dP, rfl, nQ.zero _, (by first | decide | omega | (dsimp only; omega) | exact (show (7 : Nat) < 256 by decide) | exact (show (11 : Nat) < 256 by decide)), F.bF So⟩
 have heq : ¬ ii.tag ≠ Mac.tag ((dD jj ii.ctx).getD 8 []) ii.ctx.trans := by simpa using Zq
 have ZV : eL x p ini = (⟨ii, dD jj ii.ctx, yy⟩, 0) := Zz.trans (if_neg heq);refine au 7 ?_;refine ak (aA rfl (cells := Pw i0 ii.ctx.ep i1 i2 i3 ii.frm i4 s0 s1 s2 s3 s4 s5 s6 s7 s8 s9 Zd Ze hy) Kr) ?_;refine aU ?_;intro _ D cg;have ex := aI.one cg;clear cg;obtain ⟨F,Ky,KI,KS⟩ := j6 ex F Ky KI KS;replace B6 := D; clear D;replace B6 := B6.congr (cs' := Pw i0 ii.ctx.ep i1 i2 i3 ii.frm i4 s0 s1 s2 s3 s4 s5 s6 s7 s8 s9 Zd Ze hy) rfl;refine aU ?_;refine aa4 rfl rfl B6 rfl ?_;rw [ZV]; exact ⟨_, rfl, ⟨i0, i1, i2, i3, i4, s0, s1, s2, s3, s4, s5, s6, s7, s8, s9, Zd, Ze, hy, rfl, KI.out, KS.out, Ky.out⟩, (by first | decide | omega | (dsimp only; omega) | exact (show (7 : Nat) < 256 by decide) | exact (show (11 : Nat) < 256 by decide)), F.bF So⟩
end
section
open Wire Nd Hk
theorem vv {a b c d e f g i j k l : Hd} {s : List (List UInt8)} (H : cN w (wR a b c d e f g h i j k l) s) : Bs w i.A i.n (s.getD 8 []) := by
 obtain ⟨A, n, q, h1, h2⟩ := H.get (i := 8) Om;have YU : some (Value.slice i.A i.n i.c) = some (.slice A n q) := h1;injection YU with YU
 injection YU with e1 e2 _
 rw [e1, e2]; exact h2
theorem vS {c : Ctx} (hj : j.length ≤ 1000000) : ∀ s ∈ dD j c, s.length ≤ 1000000 := fun s hs => by
 unfold dD at hs;simp only [List.cons_append, List.nil_append, List.mem_cons, List.mem_map] at hs
 rcases hs with rfl | rfl | rfl | ⟨i, _, rfl⟩
 ·exact hj
 ·rw [dL]; omega
 ·unfold tj; rw [dL]; omega
 unfold sS; rw [dL]; omega
end
section
open Wire Nd Hk
theorem AI (B : Oa) (m d : Nat) (s : ByteArray) (cs : Lb) (w : aa9) (HB : Bs w B m cs) (hs : s.size ≤ 1048576) (hm : m ≤ 1048576) :
  Ct 34 #[.string s, .slice B m d] w fun e w' => ∃ A' c', e = .returned (.slice A' 32 c') ∧ Row w' w.heap.size 5 A' 32 c' ((Sha.sum (Wire.vec s.data.toList ++ Wire.vec cs)).map bv) ∧ Ext w w' := by
 have E := Ext.refl w;have YW := Wire.bH s.size; have YX := Wire.bH m;refine ai 12 func34 ?_;intro _ aa4;refine aU ?_;refine af (oJ rfl Tn.u Tn.u Tn.u) rfl ?_;rintro _ _ ⟨_, c2, rfl, H2, _, ex⟩;obtain ⟨HB,E⟩ := aS ex HB E;have YU := E.size;refine aB func54 rfl (iq _ _ c2 _ _ H2 Om) ?_;rintro e _ ⟨_, _, _, rfl, R3, _, ex⟩;obtain ⟨HB,E⟩ := aS ex HB E;replace R3 := R3.lower YU;refine aU ?_;refine aB func54 rfl (iq B m d cs _ HB Om) ?_;rintro e _ ⟨_, _, _, rfl, R4, _, ex⟩;refine aU ?_;obtain ⟨E,R3⟩ := aS ex E R3;have H4 := R4.bs; have YV := E.size;refine af (aT rfl rfl bV R3 H4.2 (by rw [List.length_map, H4.1]) aJ Om Om YV) rfl ?_;rintro _ w5 ⟨A5, c5, rfl, R5, be, _, _⟩;have E5 := E.trans be; have H5 := R5.cat.bs;refine aB func52 rfl (il A5 _ c5 _ _ H5 Om) ?_;rintro e w6 ⟨A6, c6, rfl, O6, ex⟩;have E6 := E5.ext ex; have R6 : Row w6 w5.heap.size 5 A6 32 c6 _ := O6;refine aU ?_;exact aa4 rfl ⟨_, _, rfl, R6.lower E5.size, E6⟩
theorem mQ {p : Pack} (w : aa9) (H : dv w cs p) (YU : p.Small) :
  Ct 11 #[.agg cs] w fun e w' => ∃ A' c', e = .returned (.slice A' 32 c') ∧ Row w' w.heap.size 5 A' 32 c' ((dW p).map bv) ∧ Ext w w' := by
 have HP := H;have hl := ND YU;obtain ⟨i, h0, h1, h2, h4, h5, gg, rfl, hs, a, b0, b1, b2, b4, b5, c⟩ := H;have E := Ext.refl w;refine ai 6 func11 ?_;intro _ aa4;refine aU ?_;intro _ _ _ _ ex;replace E := E.ext ex;refine aU ?_;refine aB func35 rfl (ti _ (HP.ext E) YU) ?_;rintro e _ ⟨A2, k2, c2, rfl, R2, ex⟩;refine aU ?_;replace E := E.ext ex;have YV := R2.bs.1; have z2 := E.size;refine aB func34 rfl (AI A2 k2 c2 zy _ _ R2.bs uo Om) ?_;rintro e _ ⟨A3, c3, rfl, R3, ex⟩;replace E := E.ext ex;refine aU ?_;exact aa4 rfl ⟨A3, c3, rfl, R3.lower z2, E⟩
end
section
open Wire Nd Hk
theorem Bb {i g y : Hd} {j : Nat} {v : Value} (h : (dK i h0 h1 h2 s h4 h5 g)[j]? = some v) : (FV i h0 h1 h2 s h4 h5 g y)[j]? = some v := by
 match j with
 | 0 => exact h
 | 1 => exact h
 | 2 => exact h
 | 3 => exact h
 | 4 => exact h
 | 5 => exact h
 | 6 => exact h
 | 7 => exact h
 | j + 8 => rw [Array.getElem?_eq_none (by show 8 ≤ _; omega)] at h; cases h
theorem Kc {i : Nat} {gs : List Gs} (HG : rz qw 9 w A n gs) (hi : i < n) : ∃ b o y f0 f1 f2 f3 f4 f5 f6 f7, A = some ⟨b, o, none⟩ ∧ gs[i]? = some y ∧ (∀ W', Ext w W' → ∀ j v, (FV f0 f1 f2 f3 y.pk.leaf.src f4 f5 f6 f7)[j]? = some v → W'.cell? ⟨b, o + i * 9 + j, none⟩ = some v) ∧
  qP w f0 y.pk.init ∧ dv w (dK f0 f1 f2 f3 y.pk.leaf.src f4 f5 f6) y.pk ∧ qP w f7 y.way := by
 obtain ⟨b, o, cs, y, e1, _, hx, _, hR, hcx⟩ := HG.CC Om (i := i) hi;obtain ⟨f0, f1, f2, f3, f4, f5, f6, f7, rfl, hs, q, q0, q1, q2, q4, q5, r, t⟩ := hR;exact ⟨b, o, y, f0, f1, f2, f3, f4, f5, f6, f7, e1, hx, fun W' E j v hv => (Below.cell E (dR (hcx j v hv))).trans (hcx j v hv), q, ⟨f0, f1, f2, f3, f4, f5, f6, rfl, hs, q, q0, q1, q2, q4, q5, r⟩, t⟩
end
section
open Wire Nd Hk
def vH (w : aa9) (cs : Array Value) (p : Nat × Nat) : Prop := cs = #[.int .u8 (p.1 : Int), .int .u8 (p.2 : Int)] ∧ p.1 < 256 ∧ p.2 < 256
abbrev P8 := List UInt8 × List UInt8 × List UInt8
def jM (B : Hd → List UInt8 → Prop) (cs : Array Value) (k : P8) : Prop := ∃ h0 h1 h2 : Hd, cs = eQ h0 h1 h2 ∧ B h0 k.1 ∧ B h1 k.2.1 ∧ B h2 k.2.2
theorem jM.imp : PD jM := fun _ _ _ _ ⟨a, b, c, e, h1, h2, h3⟩ f => ⟨a, b, c, e, f _ _ h1, f _ _ h2, f _ _ h3⟩
theorem Ej.imp' : PD Ej := fun _ _ _ _ h f => h.imp f
def ma (p : Nat × Nat) : List UInt8 := pK (10 + p.1)
def kZ (p : Nat × Nat) : List UInt8 := if 0 < p.2 then pK p.2 else []
def JC (z : Int) (i : Nat) (p : Nat × Nat) : List UInt8 := if (i : Int) = z ∧ p.2 = 9 then [1] else kZ p
def QL (p : Nat × Nat) : List UInt8 := iZ (ll (ma p))
def ON (z : Int) (i : Nat) (p : Nat × Nat) : List UInt8 := if (i : Int) = z ∧ p.2 = 8 then [] else QL p
def Ry (z : Int) (i : Nat) (p : Nat × Nat) : List UInt8 := if (i : Int) = z ∧ p.2 = 7 then List.replicate 32 0 else ON z i p
def cK (p : Nat × Nat) : Pack := Oe [UInt8.ofNat p.1] (ma p)
def UO (z : Int) (i : Nat) (p : Nat × Nat) : Gs := ⟨⟨Ry z i p, (cK p).leaf, (cK p).sig⟩, JC z i p⟩
def keyOf (p : Nat × Nat) : P8 := (fS (ll (ma p)), fS (Du (ma p)), ru (ma p))
def fC (z : Int) (ps : List (Nat × Nat)) (n : Nat) : List Gs := (List.range n).map fun i => UO z i (ps.getD i (0, 0))
def mO (ps : List (Nat × Nat)) (n : Nat) : List P8 := (List.range n).map fun i => keyOf (ps.getD i (0, 0))
theorem SC : wW Tryz.prog 58 68 9 200 := wW.of (z := .agg (FV ar ar ar ar 0 ar ar ar ar)) underlying58 Kr Kr Om
theorem PG : wW Tryz.prog 59 51 3 72 := wW.of (z := .agg #[.slice none 0 0, .slice none 0 0, .slice none 0 0]) underlying59 Kr Kr Om
theorem nX {xs : Lb} (F : Fb base w h.A h.n xs) (hS : ∀ g ∈ S, g < base ∨ ∃ t vs, aq w g t vs ∧ vs.size ≤ 8 ∧ t ≠ 5) (hh : h.n = 0 ∨ 8 < h.n ∨ ∀ b o, h.A = some ⟨b, o, none⟩ → ∃ cur, aq w b 5 cur) : Bx S w h xs := ⟨F.1, fun hn b o e hm => by
 rcases hS b hm with h1 | ⟨t, vs, hb, hz, ht⟩
 ·have := F.2 hn b o e; omega
 rcases hh with h | h | h
 ·omega
 ·exact F.1.yF hb Om o e
 obtain ⟨cur, hc⟩ := h b o e;have h2 : some (Obj.cells vs t) = some (Obj.cells cur 5) := hb.symm.trans hc
 grind⟩
theorem QV (H : tU base w cs (Oe ident seed)) (IT : Pm 3 w cs) (h1 : 1 ≤ ident.length) (h2 : ident.length ≤ 64) (hS : ∀ g ∈ S, g < base ∨ ∃ t vs, aq w g t vs ∧ vs.size ≤ 8 ∧ t ≠ 5) : iO (Bx S w) cs (Oe ident seed) := by obtain ⟨o1, ⟨⟨o2, o3, o4, _⟩, _⟩, o5⟩ := uI (ident := ident) seed h1 h2;obtain ⟨i, p0, p1, p2, p4, p5, g, rfl, hs, a, b0, b1, b2, b4, b5, c⟩ := H;have l := a.1.1; have l0 := b0.1.1; have l1 := b1.1.1; have l5 := b5.1.1; have l6 := c.1.1;exact ⟨i, p0, p1, p2, p4, p5, g, rfl, hs, nX a hS (.inr (.inl Om)), nX b0 hS (.inr (.inl Om)), nX b1 hS (.inr (.inl Om)), nX b2 hS (.inr (.inr fun b o e => IT _ _ _ rfl b o e)), nX b4 hS (.inl b4.1.1.symm), nX b5 hS (.inr (.inl Om)), nX c hS (.inr (.inl Om))⟩
theorem Vp {a b c : Lb} (H : Dh base w cs a b c) (h1 : a.length = 32) (h2 : b.length = 32) (h3 : c.length = 32) (hS : ∀ g ∈ S, g < base ∨ ∃ t vs, aq w g t vs ∧ vs.size ≤ 8 ∧ t ≠ 5) : jM (Bx S w) cs (a, b, c) := by obtain ⟨p0, p1, p2, rfl, x, y, z⟩ := H;have l0 := x.1.1; have l1 := y.1.1; have l2 := z.1.1;exact ⟨p0, p1, p2, rfl, nX x hS (.inr (.inl Om)), nX y hS (.inr (.inl Om)), nX z hS (.inr (.inl Om))⟩
theorem iO.inj {B : Hd → List UInt8 → Prop} {i g : Hd} {p : Pack} (h : iO B (dK i h0 h1 h2 s h4 h5 g) p) : p.leaf.src < 256 ∧ B i p.init ∧ B h0 p.leaf.box ∧ B h1 p.leaf.sign ∧ B h2 p.leaf.ident ∧ B h4 p.leaf.parent ∧ B h5 p.leaf.sig ∧ B g p.sig := by obtain ⟨i', YU, YV, YW, YX, YY, g', e, hs, a, b0, b1, b2, b4, b5, c⟩ := h;unfold dK at e;simp only [Array.mk.injEq, List.cons.injEq, Value.slice.injEq, and_true] at e;obtain ⟨e1, e2, e3, e4, _, e5, e6, e7⟩ := e;cases i; cases h0; cases h1; cases h2; cases h4; cases h5; cases g;simp_all
def Fx (base g : Nat) (W : aa9) (h : Hd) (xs : Lb) : Prop := Fb base W h.A h.n xs ∧ (0 < h.n → ∀ b o, h.A = some ⟨b, o, none⟩ → b ≠ g)
structure GB (wq : aa9) (base g13 : Nat) (p0 p1 p2 : Hd) (s : Nat) (p4 p5 pg hi y : Hd) (ini way : Lb) (W : aa9) : Prop where
 e : Ext wq W
 b : aq W g13 68 (FV hi p0 p1 p2 s p4 p5 pg y)
 fi : Fx base g13 W hi ini
 fy : Fx base g13 W y way
section
variable {W : aa9} {g13 g : Nat} {p0 p1 p2 p4 p5 pg hi y hi' y' : Hd} {way ini' way' xs : Lb}
theorem Fx.aw (h1 : Fx base g W h xs) (cg : mi W g W') : Fx base g W' h xs := ⟨⟨((Kp.bs (S := [g]) h1.1.1 fun hn k hk o e => by simp at hk; subst hk; exact h1.2 hn _ _ e rfl).bD (aI.one cg) (fun _ h => h)).out, h1.1.2⟩, h1.2⟩
theorem Fx.ext (h1 : Fx base g W h xs) (e : Ext W W') : Fx base g W' h xs := ⟨h1.1.ext e, h1.2⟩
theorem Fx.nil (base g : Nat) (W : aa9) : Fx base g W ar [] := ⟨Fb.nil _ _ _, fun h => absurd h (Nat.lt_irrefl 0)⟩
theorem Fx.new (H : Bs W (cf b) n xs) (h1 : base ≤ b) (h2 : b ≠ g) : Fx base g W ⟨some ⟨b, 0, none⟩, n, c⟩ xs :=
 ⟨⟨H, fun _ _ _ e => by grind⟩, fun _ _ _ e => by grind⟩
theorem GB.ext (h : GB wq base g13 p0 p1 p2 s p4 p5 pg hi y ini way W) (x : Ext W W') : GB wq base g13 p0 p1 p2 s p4 p5 pg hi y ini way W' := ⟨h.e.tr x, h.b.ext x, h.fi.ext x, h.fy.ext x⟩
theorem GB.put (h : GB wq base g13 p0 p1 p2 s p4 p5 pg hi y ini way W) (cg : mi W g13 W') (hg : wq.heap.size ≤ g13) (D : aq W' g13 68 (FV hi' p0 p1 p2 s p4 p5 pg y')) (fi : Fx base g13 W' hi' ini') (fy : Fx base g13 W' y' way') : GB wq base g13 p0 p1 p2 s p4 p5 pg hi' y' ini' way' W' :=
 ⟨h.e.aw cg hg, D, fi, fy⟩
end
theorem CA (h : n < 256) : #[Value.int .u8 (n : Int)] = dc [UInt8.ofNat n] := by simp [dc, bv, UInt8.toNat_ofNat']; omega
theorem Eu {ps : List (Nat × Nat)} (z : Int) (w : aa9) (HA : rz vH 2 w A n ps) (hn : n ≤ 1000) :
  Ct 16 #[.slice A n c, .int .i64 z] w fun e w' => ∃ A1 c1 A2 c2, e = .returned (.tuple #[.slice A1 n c1, .slice A2 n c2, .bool true]) ∧ rz qw 9 w' A1 n (fC z ps n) ∧ rz (fun w => jM (qP w)) 3 w' A2 n (mO ps n) ∧ (∀ b o, A1 = some ⟨b, o, none⟩ ∨ A2 = some ⟨b, o, none⟩ → w.heap.size ≤ b) ∧ Ext w w' := by
 have E := Ext.refl w;have hpl := HA.1;refine ny 108 func16 ?_;intro _ aa4;refine aU ?_;refine aE (fun n' L wr => ∃ (i : Nat) (A7 : Oa) (c7 : Nat) (A8 : Oa) (c8 : Nat) (v7 v8 : List Value), L = [(0, .slice A n c), (1, .int .i64 z), (7, .slice A7 i c7), (8, .slice A8 i c8), (9, .int .i64 (i : Int))] ∧ n' = n - i ∧ (i ≤ n ∧ Ext w wr ∧ iI Ej 9 68 w.heap.size ((Value.slice A8 i c8).ownBlock.toList ++ []) wr A7 i c7 (fC z ps i) v7 ∧ iI jM 3 51 w.heap.size ((Value.slice A7 i c7).ownBlock.toList ++ []) wr A8 i c8 (mO ps i) v8 ∧ (∀ g ∈ (Value.slice A7 i c7).ownBlock.toList, g ∉ (Value.slice A8 i c8).ownBlock.toList))) _ _ ⟨0, none, 0, none, 0, [], [], rfl, rfl, Nat.zero_le _, E, iI.empty _ _ _ _ _ _, iI.empty _ _ _ _ _ _, fun g h => by simp [Value.ownBlock] at h⟩ Ls ?_;rintro _ n' L wr ⟨i, A7, c7, A8, c8, v7, v8, rfl, rfl, hi, E, X7, X8, hd⟩ ZW;refine aa1 (fun ZX => ?_) (fun ZX => ?_)
 ·obtain ⟨b, o, cs1, p, e1, _, hx, hcz, ⟨rfl, ZO, hp2⟩, hcx⟩ := HA.CC Om (i := i) Om;have hgd : ps.getD i (0, 0) = p := by grind
  have YZ : ∀ W', Ext w W' → ∀ j v, (#[.int .u8 (p.1 : Int), .int .u8 (p.2 : Int)] : Array Value)[j]? = some v → W'.cell? ⟨b, o + i * 2 + j, none⟩ = some v := fun W' E j v hv => (Below.cell E (dR (hcx j v hv))).trans (hcx j v hv);have Z := Ext.refl wr;refine au 5 ?_;refine iB (fun L Y0 => ∃ (hi p0 p1 p2 p4 p5 pg k0 k1 k2 : Hd) (Y2 YX : Nat), L = [(0, .slice A n c), (1, .int .i64 z), (7, .slice A7 i c7), (8, .slice A8 i c8), (9, .int .i64 (i : Int)), (10, .pointer (cf Y2)), (11, .pointer (cf YX)), (12, .int .u8 0)] ∧ (Ext wr Y0 ∧ iO (Bx ((Value.slice A7 i c7).ownBlock.toList ++ (Value.slice A8 i c8).ownBlock.toList) Y0) (dK hi p0 p1 p2 (cK p).leaf.src p4 p5 pg) (cK p) ∧ jM (Bx ((Value.slice A7 i c7).ownBlock.toList ++ (Value.slice A8 i c8).ownBlock.toList) Y0) (eQ k0 k1 k2) (keyOf p) ∧ Fb wr.heap.size Y0 hi.A hi.n (QL p) ∧ aq Y0 Y2 29 (dK hi p0 p1 p2 (cK p).leaf.src p4 p5 pg) ∧ aq Y0 YX 51 (eQ k0 k1 k2) ∧ wr.heap.size ≤ YX)) ?_ ?_
  ·skip;refine dA Kr 24 rfl ?_; intro ZY ex hd6;obtain ⟨E,Z⟩ := aS ex E Z;have Zl := E;have Zm := Z;have X0 := Ext.refl ZY;refine zm [0, 1] ?_;refine dz 2 rfl Kr (fp (s := 2) (j := i) e1 rfl rfl Tn.u Kr rfl Om) rfl ?_;refine zm [3] ?_;refine dz 4 rfl Kr (ah rfl Tn.u rfl (YZ _ Zl 0 _ rfl)) rfl ?_;refine zm [6, 7] ?_;refine dz 8 rfl Kr (fp (s := 2) (j := i) e1 rfl rfl Tn.u Kr rfl Om) rfl ?_;refine zm [9] ?_;refine dz 10 rfl Kr (ah rfl Tn.u rfl (YZ _ Zl 0 _ rfl)) rfl ?_;refine zm [11] ?_;refine dz 12 rfl Kr (aO rfl rfl (show _ = (((10 + p.1 : Nat)) : Int) from bj Om Om)) rfl ?_;refine dx (fl := [sj 19 10 29 (dK ar ar ar ar 0 ar ar ar), sj 20 11 51 (eQ ar ar ar)]) rfl ?_;refine Th (i := 5) (j := 13) ⟨(aN (br rfl Kr) (aN (br rfl Kr) av)), aa2 rfl, aa2 rfl, (aN (⟨rfl, aa2 rfl⟩) (aN (⟨rfl, aa2 rfl⟩) av)), (aN (aQ Kr) (aN (aQ Kr) av))⟩ Kr ?_ ?_
   ·skip;refine ⟨(aN (aa2 rfl) (aN (aa2 rfl) av)), _, _, _, _, _, rfl, (aN (aa2 rfl) (aN (aa2 rfl) av)), rfl, ?_⟩;intro Zn ex exb;obtain ⟨E,Z,X0⟩ := bh ex E Z X0;refine Ef.mono (aF (z := .int .u8 0) underlying23 Kr rfl rfl rfl rfl rfl) ?_;rintro _ ZZ ⟨Z0, rfl, ZB, ZC, ex⟩;refine ⟨ex, ?_⟩;obtain ⟨E,Z,X0⟩ := bh ex E Z X0;have Zc := aX (xs := [UInt8.ofNat p.1]) (ZB.congr (CA ZO)) rfl;refine j9 13 (some 34) func28 ?_;intro Zh ex exb;obtain ⟨E,Z,X0,Zc⟩ := bG ex E Z X0 Zc;refine ⟨_, (kj (10 + p.1) Om _), ?_⟩;rintro e ZD ⟨Z1, rfl, Zd, _, ex⟩;refine ⟨_, rfl, ex, ?_⟩;obtain ⟨E,Z,X0,Zc⟩ := bG ex E Z X0 Zc;refine j9 14 (some 35) func27 ?_;intro Y3 ex exb;obtain ⟨E,Z,X0,Zc,Zd⟩ := fR ex E Z X0 Zc Zd;refine ⟨_, (qv _ Zc Om Om Zd), ?_⟩;rintro e ZE ⟨cs, ks, rfl, HP, HI, HK, ex⟩;refine ⟨_, rfl, ex, ?_⟩;obtain ⟨E,Z,X0⟩ := bh ex E Z X0;have Z2 := exb.size; obtain ⟨i0, p0, p1, p2, p4, p5, pg, rfl, _, q, _⟩ := id HP; obtain ⟨k0, k1, k2, rfl, _⟩ := id HK; have q2 := q.2;refine ju (dst := some 20) 15 rfl Kr (aL rfl) rfl (aN (aa2 rfl) (aN (aa2 rfl) av)) ?_;refine ju (dst := some 36) 16 rfl Kr (cM rfl rfl) rfl (aN (aa2 rfl) (aN (aa2 rfl) av)) ?_;refine ju (dst := some 37) 17 rfl Kr (cM rfl rfl) rfl (aN (aa2 rfl) (aN (aa2 rfl) av)) ?_;refine ju (dst := some 38) 18 rfl Kr (cM rfl rfl) rfl (aN (aa2 rfl) (aN (aa2 rfl) av)) ?_;refine jK ⟨(aN (br rfl Kr) (aN (br rfl Kr) av)), aa2 rfl, aa2 rfl, (aN (⟨rfl, aa2 rfl⟩) (aN (⟨rfl, aa2 rfl⟩) av)), (aN (aQ Kr) (aN (aQ Kr) av))⟩ Kr ?_;rintro _ _ Z5 ex ⟨⟨Y2, rfl, YV⟩, Za⟩ ⟨⟨YX, rfl, YW⟩, YY⟩ YU;replace Za := Za Y2 rfl;replace YY := YY YX rfl;have Zb : Y2 ≠ YX := fun e => YU Y2 rfl (by rw [e]; rfl);obtain ⟨E,Z,X0⟩ := bh ex E Z X0;have z0 := Zm.size;have HP := HP.ext ex;have HI := HI.ext ex;have HK := HK.ext ex
    have hS : ∀ g ∈ [Y2, YX] ++ ((Value.slice A7 i c7).ownBlock.toList ++ (Value.slice A8 i c8).ownBlock.toList), g < Y3.heap.size ∨ ∃ t vs, aq _ g t vs ∧ vs.size ≤ 8 ∧ t ≠ 5 := fun g hg => by
     rcases List.mem_append.1 hg with h | h
     ·simp at h;rcases h with rfl | rfl
      ·exact .inr ⟨_, _, YV, by decide, by decide⟩
      exact .inr ⟨_, _, YW, by decide, by decide⟩
     have h3 : g < wr.heap.size := by
      rcases List.mem_append.1 h with h | h
      ·exact (X7.2.1.mz (m := i) g h).2
      exact (X8.2.1.mz (m := i) g h).2
     omega
    have PX := QV HP HI (by simp) (by simp) hS;have KX := Vp HK (dO _) (dO _) (fZ _) hS;refine cY 21 Kr ?_;refine er rfl (ag rfl rfl Kr YV rfl (bu rfl)) rfl ?_;rintro _ Zi ⟨rfl, YV, cg⟩;replace X0 := X0.aw cg Za;refine ⟨X0, ?_⟩;replace E := Zl.ext X0;replace Z := Zm.ext X0;replace YW := YW.aw cg Om;replace PX := PX.imp fun _ _ b => b.bD (aI.one cg) (by simp); replace KX := jM.imp _ _ _ _ KX fun _ _ b => b.bD (aI.one cg) (by simp);refine cY 22 Kr ?_;refine er rfl (ag rfl rfl Kr YW rfl (bu rfl)) rfl ?_;rintro _ Zj ⟨rfl, YW, cg⟩;replace X0 := X0.aw cg YY;refine ⟨X0, ?_⟩;replace E := Zl.ext X0;replace Z := Zm.ext X0;replace YV := YV.aw cg Om;replace PX := PX.imp fun _ _ b => b.bD (aI.one cg) (by simp); replace KX := jM.imp _ _ _ _ KX fun _ _ b => b.bD (aI.one cg) (by simp);refine zm [23] ?_;refine dM Kr ?_;refine aU ?_;exact cV _ ⟨i0, p0, p1, p2, p4, p5, pg, k0, k1, k2, Y2, YX, rfl, Z, PX.imp fun _ _ b => b.re (fun g hg => .inl (List.mem_append_right _ hg)), jM.imp _ _ _ _ KX fun _ _ b => b.re (fun g hg => .inl (List.mem_append_right _ hg)), ⟨PX.inj.2.1.1, fun hn b o e => Nat.le_trans Om (q2 hn b o e)⟩, YV, YW, Om⟩ Ls
   skip;refine ⟨(aN (aa2 rfl) (aN (aa2 rfl) av)), _, _, _, _, _, rfl, (aN (aa2 rfl) (aN (aa2 rfl) av)), rfl, ?_⟩;intro Zh ex exb;obtain ⟨E,Z,X0⟩ := bh ex E Z X0;refine jD func28 rfl rfl rfl (kj (10 + p.1) Om _) ?_;rintro e ZD ⟨Z1, rfl, Zd, _, ex⟩;refine ⟨_, rfl, ex, ?_⟩;obtain ⟨E,Z,X0⟩ := bh ex E Z X0;refine EW (j := 5) (dst := some 26) ⟨(aN (br rfl Kr) (aN (br rfl Kr) av)), aa2 rfl, aa2 rfl, (aN (⟨rfl, aa2 rfl⟩) (aN (⟨rfl, aa2 rfl⟩) av)), (aN (aQ Kr) (aN (aQ Kr) av))⟩ Kr (aN (aa2 rfl) (aN (aa2 rfl) av)) rfl (aN (aa2 rfl) (aN (aa2 rfl) av)) rfl ?_;intro Zn ex exb;obtain ⟨E,Z,X0,Zd⟩ := bG ex E Z X0 Zd;refine Ef.mono (aF (z := .int .u8 0) underlying23 Kr rfl rfl rfl rfl rfl) ?_;rintro _ ZZ ⟨Z0, rfl, ZB, ZC, ex⟩;refine ⟨ex, ?_⟩;obtain ⟨E,Z,X0,Zd⟩ := bG ex E Z X0 Zd;have Zc := aX (xs := [UInt8.ofNat p.1]) (ZB.congr (CA ZO)) rfl;refine j9 14 (some 35) func27 ?_;intro Y3 ex exb;obtain ⟨E,Z,X0,Zd,Zc⟩ := fR ex E Z X0 Zd Zc;refine ⟨_, (qv _ Zc Om Om Zd), ?_⟩;rintro e ZE ⟨cs, ks, rfl, HP, HI, HK, ex⟩;refine ⟨_, rfl, ex, ?_⟩;obtain ⟨E,Z,X0⟩ := bh ex E Z X0;have Z2 := exb.size; obtain ⟨i0, p0, p1, p2, p4, p5, pg, rfl, _, q, _⟩ := id HP; obtain ⟨k0, k1, k2, rfl, _⟩ := id HK; have q2 := q.2;refine ju (dst := some 20) 15 rfl Kr (aL rfl) rfl (aN (aa2 rfl) (aN (aa2 rfl) av)) ?_;refine ju (dst := some 36) 16 rfl Kr (cM rfl rfl) rfl (aN (aa2 rfl) (aN (aa2 rfl) av)) ?_;refine ju (dst := some 37) 17 rfl Kr (cM rfl rfl) rfl (aN (aa2 rfl) (aN (aa2 rfl) av)) ?_;refine ju (dst := some 38) 18 rfl Kr (cM rfl rfl) rfl (aN (aa2 rfl) (aN (aa2 rfl) av)) ?_;refine jK ⟨(aN (br rfl Kr) (aN (br rfl Kr) av)), aa2 rfl, aa2 rfl, (aN (⟨rfl, aa2 rfl⟩) (aN (⟨rfl, aa2 rfl⟩) av)), (aN (aQ Kr) (aN (aQ Kr) av))⟩ Kr ?_;rintro _ _ Z5 ex ⟨⟨Y2, rfl, YV⟩, Za⟩ ⟨⟨YX, rfl, YW⟩, YY⟩ YU;replace Za := Za Y2 rfl;replace YY := YY YX rfl;have Zb : Y2 ≠ YX := fun e => YU Y2 rfl (by rw [e]; rfl);obtain ⟨E,Z,X0⟩ := bh ex E Z X0;have z0 := Zm.size;have HP := HP.ext ex;have HI := HI.ext ex;have HK := HK.ext ex
   have hS : ∀ g ∈ [Y2, YX] ++ ((Value.slice A7 i c7).ownBlock.toList ++ (Value.slice A8 i c8).ownBlock.toList), g < Y3.heap.size ∨ ∃ t vs, aq _ g t vs ∧ vs.size ≤ 8 ∧ t ≠ 5 := fun g hg => by
    rcases List.mem_append.1 hg with h | h
    ·simp at h;rcases h with rfl | rfl
     ·exact .inr ⟨_, _, YV, by decide, by decide⟩
     exact .inr ⟨_, _, YW, by decide, by decide⟩
    have h3 : g < wr.heap.size := by
     rcases List.mem_append.1 h with h | h
     ·exact (X7.2.1.mz (m := i) g h).2
     exact (X8.2.1.mz (m := i) g h).2
    omega
   have PX := QV HP HI (by simp) (by simp) hS;have KX := Vp HK (dO _) (dO _) (fZ _) hS;refine cY 21 Kr ?_;refine er rfl (ag rfl rfl Kr YV rfl (bu rfl)) rfl ?_;rintro _ Zi ⟨rfl, YV, cg⟩;replace X0 := X0.aw cg Za;refine ⟨X0, ?_⟩;replace E := Zl.ext X0;replace Z := Zm.ext X0;replace YW := YW.aw cg Om;replace PX := PX.imp fun _ _ b => b.bD (aI.one cg) (by simp); replace KX := jM.imp _ _ _ _ KX fun _ _ b => b.bD (aI.one cg) (by simp);refine cY 22 Kr ?_;refine er rfl (ag rfl rfl Kr YW rfl (bu rfl)) rfl ?_;rintro _ Zj ⟨rfl, YW, cg⟩;replace X0 := X0.aw cg YY;refine ⟨X0, ?_⟩;replace E := Zl.ext X0;replace Z := Zm.ext X0;replace YV := YV.aw cg Om;replace PX := PX.imp fun _ _ b => b.bD (aI.one cg) (by simp); replace KX := jM.imp _ _ _ _ KX fun _ _ b => b.bD (aI.one cg) (by simp);refine zm [23] ?_;refine dM Kr ?_;refine aU ?_;exact cV _ ⟨i0, p0, p1, p2, p4, p5, pg, k0, k1, k2, Y2, YX, rfl, Z, PX.imp fun _ _ b => b.re (fun g hg => .inl (List.mem_append_right _ hg)), jM.imp _ _ _ _ KX fun _ _ b => b.re (fun g hg => .inl (List.mem_append_right _ hg)), ⟨PX.inj.2.1.1, fun hn b o e => Nat.le_trans Om (q2 hn b o e)⟩, YV, YW, Om⟩ Ls
  rintro L Y0 ⟨hi, p0, p1, p2, p4, p5, pg, k0, k1, k2, Y2, YX, rfl, Z, PX, KX, FI, _, Z6, YY⟩;have E := E.tr Z;refine au 14 ?_;refine ak (aP rfl Tn.u rfl Kr (by assumption)) ?_;refine ak (aA rfl (cells := FV hi p0 p1 p2 (cK p).leaf.src p4 p5 pg ar) Kr) ?_;refine aU ?_;intro w92 g13 (Zg : aq _ _ _ (FV ar ar ar ar 0 ar ar ar ar)) Ze ex;have Z7 := ex;refine aU ?_;intro Z8 ZF cg
  have ZP := Z7.aw cg Ze; have X : GB Y0 wr.heap.size g13 p0 p1 p2 (cK p).leaf.src p4 p5 pg hi ar (QL p) ([]) Z8 := ⟨ZP, ZF.congr rfl, ⟨FI.ext ZP, fun hn b o e => by have := Bs.U1 (e ▸ FI.1) hn; omega⟩, Fx.nil _ _ _⟩
  refine au 7 ?_;refine ak (fp (s := 2) (j := i) e1 rfl rfl Tn.u Kr rfl Om) ?_;refine au 1 ?_;refine ak (ah rfl Tn.u rfl (YZ _ (E.tr X.e) 1 _ rfl)) ?_;refine au 3 ?_;refine iB (fun L Zo => ∃ (y : Hd), L = [(0, .slice A n c), (1, .int .i64 z), (7, .slice A7 i c7), (8, .slice A8 i c8), (9, .int .i64 (i : Int)), (11, .pointer (cf YX)), (13, .pointer (cf g13))] ∧ (GB Y0 wr.heap.size g13 p0 p1 p2 (cK p).leaf.src p4 p5 pg hi y (QL p) (kZ p) Zo)) ?_ ?_
  ·skip;refine al rfl (fun hc3 => ?_) (fun hc3 => ?_)
   ·refine au 3 ?_;refine ak (fp (s := 2) (j := i) e1 rfl rfl Tn.u Kr rfl Om) ?_;refine au 1 ?_;refine ak (ah rfl Tn.u rfl (YZ _ (E.tr X.e) 1 _ rfl)) ?_;refine aU ?_;have b11 := X.b.lt; have z118 := Z.size;refine aB func28 rfl (kj p.2 Om _) ?_;rintro e _ ⟨ZQ, rfl, H56, _, ex⟩;replace X := X.ext ex;refine au 2 ?_;refine af (az (i := 8) rfl rfl rfl Kr X.b Nb) rfl ?_;rintro _ _ ⟨rfl, Zg, cg⟩;have X := X.put (hi' := hi) (y' := ⟨some ⟨ZQ, 0, none⟩, 32, 32⟩) (way' := kZ p) cg Ze (Zg.congr rfl) (X.fi.aw cg) (by unfold kZ; rw [if_pos Om]; exact (Fx.new H56 Om Om).aw cg);refine aU ?_;exact cV _ ⟨⟨some ⟨ZQ, 0, none⟩, 32, 32⟩, rfl, X⟩ Ls
   refine aU ?_;exact cV _ ⟨ar, rfl, (show kZ p = [] from if_neg Om) ▸ X⟩ Ls
  rintro L Zo ⟨y, rfl, X⟩;refine au 3 ?_;refine iB (fun L Zp => ∃ (qq : Bool), L = [(0, .slice A n c), (1, .int .i64 z), (7, .slice A7 i c7), (8, .slice A8 i c8), (9, .int .i64 (i : Int)), (11, .pointer (cf YX)), (13, .pointer (cf g13)), (68, .bool qq)] ∧ (qq = decide ((i : Int) = z ∧ p.2 = 9) ∧ GB Y0 wr.heap.size g13 p0 p1 p2 (cK p).leaf.src p4 p5 pg hi y (QL p) (kZ p) Zp)) ?_ ?_
  ·refine au 3 ?_;refine bL (ez rfl rfl) rfl (fun u0 => ?_) (fun u0 => ?_)
   ·refine au 3 ?_;refine qG 61 (fp (s := 2) (j := i) e1 rfl rfl Tn.u Kr rfl Om) ?_;refine au 1 ?_;refine qG 61 (ah rfl Tn.u rfl (YZ _ (E.tr X.e) 1 _ rfl)) ?_;refine bN 61 rfl rfl (ez rfl rfl) rfl (fun u1 => ?_) (fun u1 => ?_)
    ·refine aU ?_;exact cV _ ⟨true, rfl, (decide_eq_true ⟨u0, Om⟩).symm, X⟩ Ls
    refine aU ?_;exact cV _ ⟨false, rfl, (decide_eq_false (fun h => by have := h.2; omega)).symm, X⟩ Ls
   refine aU ?_;exact cV _ ⟨false, rfl, (decide_eq_false (fun h => u0 h.1)).symm, X⟩ Ls
  rintro L Zp ⟨qq, rfl, ZR, X⟩;refine au 1 ?_;refine iB (fun L Zq => ∃ (y : Hd), L = [(0, .slice A n c), (1, .int .i64 z), (7, .slice A7 i c7), (8, .slice A8 i c8), (9, .int .i64 (i : Int)), (11, .pointer (cf YX)), (13, .pointer (cf g13))] ∧ (GB Y0 wr.heap.size g13 p0 p1 p2 (cK p).leaf.src p4 p5 pg hi y (QL p) (JC z i p) Zq)) ?_ ?_
  ·skip;refine bw rfl (fun Zr => ?_) (fun Zr => ?_)
   ·refine aU ?_;have b13 := X.b.lt; have z132 := Z.size;refine af (aF (z := .int .u8 0) Tn.u Kr rfl rfl rfl rfl rfl) rfl ?_;rintro _ _ ⟨ZS, rfl, D69, _, ex⟩;replace X := X.ext ex;have H69 := aX (xs := [1]) (D69.congr rfl) rfl;refine au 1 ?_;refine af (az (i := 8) rfl rfl rfl Kr X.b Nb) rfl ?_;rintro _ _ ⟨rfl, Zg, cg⟩;rw [ZR] at Zr; have X := X.put (hi' := hi) (y' := ⟨some ⟨ZS, 0, none⟩, 1, 1⟩) (way' := JC z i p) cg Ze (Zg.congr rfl) (X.fi.aw cg) (by unfold JC; rw [if_pos (aa2 Zr)]; exact (Fx.new H69 Om Om).aw cg);refine aU ?_;exact cV _ ⟨⟨some ⟨ZS, 0, none⟩, 1, 1⟩, rfl, X⟩ Ls
   refine aU ?_;exact cV _ ⟨y, rfl, (show JC z i p = kZ p from if_neg (by rw [ZR] at Zr; exact of_decide_eq_false Zr)) ▸ X⟩ Ls
  rintro L Zq ⟨y, rfl, X⟩;refine au 3 ?_;refine iB (fun L Zs => ∃ (qq : Bool), L = [(0, .slice A n c), (1, .int .i64 z), (7, .slice A7 i c7), (8, .slice A8 i c8), (9, .int .i64 (i : Int)), (11, .pointer (cf YX)), (13, .pointer (cf g13)), (81, .bool qq)] ∧ (qq = decide ((i : Int) = z ∧ p.2 = 8) ∧ GB Y0 wr.heap.size g13 p0 p1 p2 (cK p).leaf.src p4 p5 pg hi y (QL p) (JC z i p) Zs)) ?_ ?_
  ·refine au 3 ?_;refine bL (ez rfl rfl) rfl (fun u2 => ?_) (fun u2 => ?_)
   ·refine au 3 ?_;refine qG 74 (fp (s := 2) (j := i) e1 rfl rfl Tn.u Kr rfl Om) ?_;refine au 1 ?_;refine qG 74 (ah rfl Tn.u rfl (YZ _ (E.tr X.e) 1 _ rfl)) ?_;refine bN 74 rfl rfl (ez rfl rfl) rfl (fun u3 => ?_) (fun u3 => ?_)
    ·refine aU ?_;exact cV _ ⟨true, rfl, (decide_eq_true ⟨u2, Om⟩).symm, X⟩ Ls
    refine aU ?_;exact cV _ ⟨false, rfl, (decide_eq_false (fun h => by have := h.2; omega)).symm, X⟩ Ls
   refine aU ?_;exact cV _ ⟨false, rfl, (decide_eq_false (fun h => u2 h.1)).symm, X⟩ Ls
  rintro L Zs ⟨qq, rfl, ZT, X⟩;refine au 1 ?_;refine iB (fun L Zt => ∃ (h5 : Hd), L = [(0, .slice A n c), (1, .int .i64 z), (7, .slice A7 i c7), (8, .slice A8 i c8), (9, .int .i64 (i : Int)), (11, .pointer (cf YX)), (13, .pointer (cf g13))] ∧ (GB Y0 wr.heap.size g13 p0 p1 p2 (cK p).leaf.src p4 p5 pg h5 y (ON z i p) (JC z i p) Zt)) ?_ ?_
  ·skip;refine bw rfl (fun Zu => ?_) (fun Zu => ?_)
   ·refine au 3 ?_;refine af (az (i := 0) rfl rfl rfl Kr X.b Nb) rfl ?_;rintro _ _ ⟨rfl, Zg, cg⟩;rw [ZT] at Zu; have X := X.put (hi' := ar) (y' := y) (ini' := ON z i p) cg Ze (Zg.congr rfl) (by unfold ON; rw [if_pos (aa2 Zu)]; exact Fx.nil _ _ _) (X.fy.aw cg);refine aU ?_;exact cV _ ⟨ar, rfl, X⟩ Ls
   refine aU ?_;exact cV _ ⟨hi, rfl, (show ON z i p = QL p from if_neg (by rw [ZT] at Zu; exact of_decide_eq_false Zu)) ▸ X⟩ Ls
  rintro L Zt ⟨h5, rfl, X⟩;refine au 3 ?_;refine iB (fun L Zv => ∃ (qq : Bool), L = [(0, .slice A n c), (1, .int .i64 z), (7, .slice A7 i c7), (8, .slice A8 i c8), (9, .int .i64 (i : Int)), (11, .pointer (cf YX)), (13, .pointer (cf g13)), (94, .bool qq)] ∧ (qq = decide ((i : Int) = z ∧ p.2 = 7) ∧ GB Y0 wr.heap.size g13 p0 p1 p2 (cK p).leaf.src p4 p5 pg h5 y (ON z i p) (JC z i p) Zv)) ?_ ?_
  ·refine au 3 ?_;refine bL (ez rfl rfl) rfl (fun u4 => ?_) (fun u4 => ?_)
   ·refine au 3 ?_;refine qG 87 (fp (s := 2) (j := i) e1 rfl rfl Tn.u Kr rfl Om) ?_;refine au 1 ?_;refine qG 87 (ah rfl Tn.u rfl (YZ _ (E.tr X.e) 1 _ rfl)) ?_;refine bN 87 rfl rfl (ez rfl rfl) rfl (fun u5 => ?_) (fun u5 => ?_)
    ·refine aU ?_;exact cV _ ⟨true, rfl, (decide_eq_true ⟨u4, Om⟩).symm, X⟩ Ls
    refine aU ?_;exact cV _ ⟨false, rfl, (decide_eq_false (fun h => by have := h.2; omega)).symm, X⟩ Ls
   refine aU ?_;exact cV _ ⟨false, rfl, (decide_eq_false (fun h => u4 h.1)).symm, X⟩ Ls
  rintro L Zv ⟨qq, rfl, ZU, X⟩;refine au 1 ?_;refine iB (fun L Zw => ∃ (h6 : Hd), L = [(0, .slice A n c), (1, .int .i64 z), (7, .slice A7 i c7), (8, .slice A8 i c8), (9, .int .i64 (i : Int)), (11, .pointer (cf YX)), (13, .pointer (cf g13))] ∧ (GB Y0 wr.heap.size g13 p0 p1 p2 (cK p).leaf.src p4 p5 pg h6 y (Ry z i p) (JC z i p) Zw)) ?_ ?_
  ·skip;refine bw rfl (fun Zx => ?_) (fun Zx => ?_)
   ·refine aU ?_;have b17 := X.b.lt; have z173 := Z.size;refine af (dC (n := 32) (z := .int .u8 0) (bytes := 1) rfl rfl Tn.u Kr rfl rfl rfl rfl Om Om) rfl ?_;rintro _ _ ⟨ZG, rfl, D95, _, ex⟩;replace X := X.ext ex;have H95 : Bs _ (cf ZG) 32 (List.replicate 32 0) := aX (D95.congr Kr) (by simp);refine au 2 ?_;refine af (az (i := 0) rfl rfl rfl Kr X.b Nb) rfl ?_;rintro _ _ ⟨rfl, Zg, cg⟩;rw [ZU] at Zx; have X := X.put (hi' := ⟨some ⟨ZG, 0, none⟩, 32, 32⟩) (y' := y) (ini' := Ry z i p) cg Ze (Zg.congr rfl) (by unfold Ry; rw [if_pos (aa2 Zx)]; exact (Fx.new H95 Om Om).aw cg) (X.fy.aw cg);refine aU ?_;exact cV _ ⟨⟨some ⟨ZG, 0, none⟩, 32, 32⟩, rfl, X⟩ Ls
   refine aU ?_;exact cV _ ⟨h5, rfl, (show Ry z i p = ON z i p from if_neg (by rw [ZU] at Zx; exact of_decide_eq_false Zx)) ▸ X⟩ Ls
  rintro L Zw ⟨h6, rfl, X⟩;refine au 4 ?_;refine ak (aP rfl Tn.u rfl Kr X.b) ?_;refine af (sM (cells := FV h6 p0 p1 p2 (cK p).leaf.src p4 p5 pg y) Tn.u rfl Kr) rfl ?_;rintro _ ZH ⟨_, rfl, ZI, _, ex⟩;replace X := X.ext ex;have EE := Z.tr X.e; have ze := EE.size; have Y7 := X7.ext Ej.imp' EE; have Y8 := X8.ext jM.imp EE; have zE := E.size; have zX := X.e.size;have o7 := fun g hg => X7.2.1.mz (m := i) g hg;have o8 := fun g hg => X8.2.1.mz (m := i) g hg
  have hlt : ∀ g ∈ (Value.slice A7 i c7).ownBlock.toList ++ (Value.slice A8 i c8).ownBlock.toList, g < wr.heap.size := fun g hg => by
   rcases List.mem_append.1 hg with h | h
   ·exact (o7 g h).2
   exact (o8 g h).2
  have hx : Ej (Bx ((Value.slice A7 i c7).ownBlock.toList ++ ((Value.slice A8 i c8).ownBlock.toList ++ [])) ZH) (FV h6 p0 p1 p2 (cK p).leaf.src p4 p5 pg y) (UO z i p) := by rw [List.append_nil];obtain ⟨t0, _, t1, t2, t3, t4, t5, t6⟩ := (PX.imp fun _ _ b => b.ext X.e).inj;exact ⟨h6, p0, p1, p2, p4, p5, pg, y, rfl, t0, Bx.of X.fi.1 hlt, t1, t2, t3, t4, t5, t6, Bx.of X.fy.1 hlt⟩
  refine af (xJ (A := A7) (n := i) (c := c7) rfl rfl SC Y7.2.1 ZI rfl (bu rfl) Om Om Om) rfl ?_;rintro _ Zy ⟨B7, d7, rfl, R7, Zz, Zf⟩;have V7 := Y7.app Ej.imp' hx rfl R7 Zz Zf; have V8 := Y8.other jM.imp Zz Zf (fun g h1 h2 => hd g h2 h1); have C7 := aI.Pc Zz;have KX7 : jM (Bx ((Value.slice A8 i c8).ownBlock.toList ++ ((Value.slice B7 (i + 1) d7).ownBlock.toList ++ [])) Zy) (eQ k0 k1 k2) (keyOf p) := jM.imp _ _ _ _ KX fun _ _ b => ((b.ext X.e).grown Zz Zf).re fun g hg => .inl (by simp only [List.mem_append, List.append_nil] at hg ⊢; exact hg.symm);have ZJ : Ext w Zy := Below.grown (E.tr X.e) Zz Om (fun k e => by have := (o7 k (by rw [e]; simp)).1; omega);have Q11 := (Z6.ext X.e).bD C7 (fun hm => by have := (o7 _ hm).2; omega)
  have ZV : ∀ g ∈ (Value.slice B7 (i + 1) d7).ownBlock.toList, g ∉ (Value.slice A8 i c8).ownBlock.toList := fun g h1 h2 => by
   rcases Zf with h | h
   ·exact hd g (by rw [← h]; exact h1) h2
   rw [h] at h1; have := (o8 g h2).2; simp at h1; omega
  refine aU ?_;refine af (sM (cells := eQ k0 k1 k2) Tn.u rfl Kr) rfl ?_;rintro _ _ ⟨_, rfl, ZK, _, ex⟩;have U7 := V7.ext Ej.imp' ex; have U8 := V8.ext jM.imp ex; have KX8 := jM.imp _ _ _ _ KX7 fun _ _ b => b.ext ex; have ZA := ZJ.tr ex; have z192 := ex.size; have u7 := fun g hg => V7.2.1.mz (m := i + 1) g hg;have zz := ZA.size;refine af (xJ (A := A8) (n := i) (c := c8) rfl rfl PG U8.2.1 ZK rfl (bu rfl) Om Om Om) rfl ?_;rintro _ ZL ⟨B8, d8, rfl, R8, ZM, Zk⟩;have W8 := U8.app jM.imp KX8 rfl R8 ZM Zk; have W7 := U7.other Ej.imp' ZM Zk ZV;have ZN : Ext w ZL := Below.grown ZA ZM Om (fun k e => by have := (o8 k (by rw [e]; simp)).1; omega)
  have hd8 : ∀ g ∈ (Value.slice B7 (i + 1) d7).ownBlock.toList, g ∉ (Value.slice B8 (i + 1) d8).ownBlock.toList := fun g h1 h2 => by
   rcases Zk with h | h
   ·exact ZV g h1 (by rw [← h]; exact h2)
   rw [h] at h2; have := (u7 g h1).2; simp at h2; omega
  have e7 : fC z ps (i + 1) = fC z ps i ++ [UO z i p] := by unfold fC; rw [List.range_succ, List.map_append, List.map_singleton, hgd]
  have e8 : mO ps (i + 1) = mO ps i ++ [keyOf p] := by unfold mO; rw [List.range_succ, List.map_append, List.map_singleton, hgd]
  rw [← e7] at W7;rw [← e8] at W8;refine au 9 ?_;refine ae ?_;refine ZW _ _ ⟨i + 1, B7, d7, B8, d8, _, _, rfl, rfl, Om, ZN, W7, W8, hd8⟩ Om Ls
 refine aU ?_;refine aa4 rfl rfl rfl ?_;obtain rfl : i = n := Om
 exact ⟨A7, c7, A8, c8, rfl, X7.W4 Ej.imp', X8.W4 jM.imp, (fun b o h => h.elim (fun e => (X7.2.1.mz (m := i) b (by rw [e]; simp [Value.ownBlock])).1) fun e => (X8.2.1.mz (m := i) b (by rw [e]; simp [Value.ownBlock])).1), E⟩
end
section
open Go.ChangeShapes Go.WideShapes Go.ChangeAt
variable {H : Type} {enc : TypeId × Value → H} {W : aa9} {spare : Nat → Bool} {held : Bool}
theorem Ei {cs : List Value} {x : DataW H × List MemPlace} (h : DataW.trod enc Tryz.prog W base spare held fuel 77 cs = some x) : ∃ p, vH W cs.toArray p := by
 obtain ⟨YU, hl, hfs⟩ := trod_struct Tryz.underlying77 h;have hc : Tryz.prog.cellsOf 77 = 2 := by kernel_rfl
 rw [hc] at hl;have c0 : Tryz.prog.cellsOf 5 = 1 := by kernel_rfl
 obtain ⟨_, t0⟩ := hfs 0 _ rfl;obtain ⟨_, t1⟩ := hfs 1 _ rfl;obtain ⟨k0, e0, m0⟩ := EH t0;obtain ⟨k1, e1, m1⟩ := EH t1;have e : cs.drop 0 = _ := NS (o := 0) c0 e0;rw [NS (o := 1) c0 e1, Uj hl] at e;exact ⟨(k0, k1), congrArg List.toArray e, m0, m1⟩
theorem N0 {d : DataW H} {p : List MemPlace} (h : DataW.Trod enc Tryz.prog W base spare held 56 (.slice A n c) d p) : ∃ ps, rz vH 2 W A n ps := by
 obtain ⟨fuel, hf⟩ := h;obtain ⟨a, n', c', xs, e, b, _⟩ := Na (R := vH) (sz := 2) Tryz.underlying56 Kr (fun _ _ _ h => Ei h) hf;have e' : [Value.slice A n c] = [.slice a n' c'] := e;injection e' with e' _
 injection e' with e1 e2 _
 subst e1; subst e2;exact ⟨xs, b⟩
end
section
open Wire Nd Hk
theorem I0 {p : Pack} (w : aa9) (h3 : cs.size = 2) (HP : dv w ds p) (hp : p.Small) (hno : ¬ dn p) (h5 : es.size = 3) :
  Ct 12 #[.agg cs, .agg ds, .agg es] w (ck w (.tuple #[.agg dP, .int .u8 3])) := by
 have YV := HP;obtain ⟨i, p0, p1, p2, p4, p5, pg, rfl, hsrc, _⟩ := YV;have F := aI.refl [] w;refine cF (s := 20) 108 func12 rfl rfl rfl underlying46 rfl Kr rfl ?_;intro _ aa4;refine aU ?_;intro _ _ B3 _ ex;have YX := B3.lt;replace F := F.ext ex;refine aU ?_;intro _ _ B4 _ ex;have YY := B4.lt;replace F := F.ext ex;refine aU ?_;intro _ _ B5 _ ex;have YZ := B5.lt;obtain ⟨F,B4⟩ := aS ex F B4;refine aU ?_;intro _ _ B6 YU ex;replace F := F.grow ex YU;replace B4 := B4.grow ex YU;refine aU ?_;have X1 := F.bF So;refine aB func36 rfl (fI _ (HP.ext X1) hp) ?_;rintro e _ ⟨_, _, _, _, rfl, T8, _, ex⟩;obtain ⟨F,B6⟩ := aS ex F B6;obtain ⟨YW, _⟩ := T8.2 hno; subst YW;refine au 18 ?_;refine ak (aA rfl (cells := dP) Kr) ?_;refine aU ?_;intro _ D cg;have ex := aI.one cg;clear cg;replace F := F.bD ex;replace B6 := D; clear D;replace B6 := B6.congr (cs' := dP) rfl;refine aU ?_;exact aa4 rfl rfl B6 rfl ⟨rfl, F.bF So⟩
theorem GO (w : aa9) (A : Oa) (n c : Nat) : Ct 37 #[.agg (gS ar ar), .slice A n c] w (ck w (.tuple #[.agg (gS ar ar), .bool false])) := by have F := aI.refl [] w;refine cF (s := 2) 23 func37 rfl rfl rfl underlying35 rfl Kr rfl ?_;intro _ aa4;refine au 2 ?_;refine af (mw rfl rfl) rfl ?_;rintro _ _ ⟨_, rfl, B2, _, ex⟩;have YX := B2.lt;replace F := F.ext ex;refine af (dG (Z := #[.slice none 0 0, .slice none 0 0]) Kr) rfl ?_;rintro _ _ ⟨_, rfl, B4, YU, ex⟩;replace F := F.grow ex YU;replace B2 := B2.grow ex YU;refine au 6 ?_;refine ak (eW 0 1 0 0 Tn.u) ?_;refine ak (ah rfl Tn.u rfl (B2.get (i := 0) rfl)) ?_;refine au 5 ?_;refine qF 1 ?_; refine fF ?_; intro YW YV;refine au 2 ?_;refine ak (Y.as (fB rfl rfl) (congrArg Value.bool (decide_eq_false (by decide)))) ?_;refine au 3 ?_;refine bm rfl rfl ?_;refine au 7 ?_;refine ak (aA rfl (cells := gS ar ar) Kr) ?_;refine af (bI (o := 0) rfl rfl Kr B4 Nb (bu rfl)) rfl ?_;rintro _ _ ⟨rfl, D, cg⟩;have ex := aI.one cg;clear cg;replace F := F.bD ex;replace B4 := D; clear D;replace B4 := B4.congr (cs' := gS ar ar) rfl;refine au 4 ?_;exact aa4 rfl rfl B4 rfl ⟨rfl, F.bF So⟩
theorem Dv {p : Pack} (w : aa9) (HP : dv w ds p) (hp : p.Small) (ok : dn p) (h5 : es.size = 3) :
  Ct 12 #[.agg (gS ar ar), .agg ds, .agg es] w (ck w (.tuple #[.agg dP, .int .u8 7])) := by
 have YY := HP;obtain ⟨i, p0, p1, p2, p4, p5, pg, rfl, hsrc, _⟩ := YY;have F := aI.refl [] w;refine cF (s := 20) 108 func12 rfl rfl rfl underlying46 rfl Kr rfl ?_;intro _ aa4;refine aU ?_;intro _ _ B3 _ ex;have Y2 := B3.lt;replace F := F.ext ex;refine aU ?_;intro _ _ B4 _ ex;have Y3 := B4.lt;obtain ⟨F,B3⟩ := aS ex F B3;refine aU ?_;intro _ _ B5 _ ex;have Za := B5.lt;obtain ⟨F,B3,B4⟩ := bh ex F B3 B4;refine aU ?_;intro _ YZ B6 YV ex;replace F := F.grow ex YV;replace B3 := B3.grow ex YV;replace B4 := B4.grow ex YV;refine aU ?_;have X1 := F.bF So;refine aB func36 rfl (fI _ (HP.ext X1) hp) ?_;rintro e _ ⟨A8, k8, c8, _, rfl, T8, _, ex⟩;obtain ⟨F,B3,B6⟩ := bh ex F B3 B6;obtain ⟨Y0, _⟩ := T8.1 ok; subst Y0;refine aU ?_;refine aB func37 rfl (GO _ A8 k8 c8) ?_;rintro e _ ⟨rfl, ex⟩;obtain ⟨F,B6⟩ := aS ex F B6;refine aU ?_;intro _ YW _ YU ex;have YX : YZ < YW := Nat.lt_of_lt_of_le B6.lt YU;replace F := F.grow ex YU;replace B6 := B6.grow ex YU;refine aU ?_;intro _ D cg;have ex := aI.one cg;clear cg;obtain ⟨F,B6⟩ := jT ex F B6;clear D;refine au 10 ?_;refine bS rfl rfl ?_;refine au 2 ?_;refine ak (aA rfl (cells := dP) Kr) ?_;refine aU ?_;intro _ D cg;have ex := aI.one cg;clear cg;replace F := F.bD ex;replace B6 := D; clear D;replace B6 := B6.congr (cs' := dP) rfl;refine aU ?_;exact aa4 rfl rfl B6 rfl ⟨rfl, F.bF So⟩
theorem GX : ¬ dn Pack.zero := by decide
theorem xL : Pack.zero.Small := by refine ⟨by decide, by decide, ?_⟩; decide
theorem Jp (w : aa9) : dv w (dK ar ar ar ar 0 ar ar ar) Pack.zero := ⟨ar, ar, ar, ar, ar, ar, ar, rfl, by decide, Bs.nil _ _, Bs.nil _ _, Bs.nil _ _, Bs.nil _ _, Bs.nil _ _, Bs.nil _ _, Bs.nil _ _⟩
theorem Lo (w : aa9) : Ct 7 #[] w (ck w (.bool true)) := by have F := aI.refl [] w;refine ai 42 func7 ?_;intro _ aa4;refine aU ?_;refine af (aF (z := .int .u8 0) Tn.u Kr rfl rfl rfl rfl rfl) rfl ?_;rintro _ _ ⟨_, rfl, D1, _, ex⟩;replace F := F.ext ex;have H1 := aX (xs := [1]) (D1.congr rfl) rfl;refine aB func28 rfl (kj 1 Om _) ?_;rintro e _ ⟨_, rfl, H2, _, ex⟩;refine aU ?_;replace F := F.ext ex;have Y2 := H1.ext ex;refine aB func27 rfl (wB _ Y2 Om Om H2) ?_;rintro e w3 ⟨_, _, rfl, HP, HK, ex⟩;replace F := F.ext ex;have Y3 := HP; obtain ⟨i, p0, p1, p2, p4, p5, pg, rfl, hsrc, _⟩ := Y3; have Za := HK; obtain ⟨k0, k1, k2, rfl, _⟩ := Za; have C3 := aI.refl [] w3; have z3 := F.size;refine aU ?_;intro _ Zb B1 YW ex;have Zd := ex.size;replace F := F.grow ex YW;replace C3 := C3.grow ex YW;refine aU ?_;intro _ YY B2 YU ex;have YZ : Zb < YY := Nat.lt_of_lt_of_le B1.lt YU;replace F := F.grow ex YU;replace C3 := C3.grow ex YU;replace B1 := B1.grow ex YU;refine aU ?_;intro _ D cg;have ex := aI.one cg;clear cg;obtain ⟨F,C3,B2⟩ := DC ex F C3 B2;replace B1 := D; clear D;replace B1 := B1.congr (cs' := dK i p0 p1 p2 (Oe [1] (pK 1)).leaf.src p4 p5 pg) rfl;refine aU ?_;intro _ D cg;have ex := aI.one cg;clear cg;obtain ⟨F,C3,B1⟩ := DC ex F C3 B1;replace B2 := D; clear D;replace B2 := B2.congr (cs' := eQ k0 k1 k2) rfl;refine au 5 ?_;refine ak (aA rfl (cells := gS ar ar) Kr) ?_;refine aU ?_;have X2 := C3.bF So;have okp := uI (ident := [1]) (pK 1) (by decide) (by decide);refine aB func12 rfl (Dv _ (HP.ext X2) (df okp) okp rfl) ?_;rintro e _ ⟨rfl, ex⟩;obtain ⟨F,B2⟩ := aS ex F B2;have z4 := F.size;refine aU ?_;intro _ Zc _ YV ex;have Y0 : YY < Zc := Nat.lt_of_lt_of_le B2.lt YV;replace F := F.grow ex YV;replace B2 := B2.grow ex YV;refine aU ?_;intro _ D cg;have ex := aI.one cg;clear cg;obtain ⟨F,B2⟩ := jT ex F B2;clear D;refine au 5 ?_;refine ak (aA rfl (cells := gS ar ar) Kr) ?_;refine ak (aA rfl (cells := dK ar ar ar ar 0 ar ar ar) Kr) ?_;refine aU ?_;refine aB func12 rfl (I0 _ rfl (Jp _) xL GX rfl) ?_;rintro e _ ⟨rfl, ex⟩;replace F := F.ext ex;have z5 := F.size;refine aU ?_;intro _ _ _ YX ex;replace F := F.grow ex YX;refine aU ?_;intro _ D cg;have ex := aI.one cg;clear cg;replace F := F.bD ex;clear D;refine au 6 ?_;refine ak (bc rfl Tn.u Tn.u (show _ = (0 : Int) from rfl)) ?_;refine au 3 ?_;refine qG 32 (bc rfl Tn.u Tn.u (show _ = (7 : Int) from rfl)) ?_;refine au 4 ?_;refine qG 37 (bc rfl Tn.u Tn.u (show _ = (3 : Int) from rfl)) ?_;refine aU ?_;exact aa4 rfl ⟨rfl, F.bF So⟩
end
section
open Wire Nd Hk
theorem Ik {z : Int} {ps : List (Nat × Nat)} : ∀ x ∈ fC z ps n, x.pk.Small ∧ x.way.length ≤ 1000 := fun x hx => by
 obtain ⟨i, _, rfl⟩ := List.mem_map.1 hx;generalize ps.getD i (0, 0) = p;obtain ⟨_, s2, s3⟩ := df (uI (ident := [UInt8.ofNat p.1]) (ma p) (by simp) (by simp));have h0 : (QL p).length = 32 := de _;refine ⟨⟨?_, s2, s3⟩, ?_⟩
 ·show (Ry z i p).length ≤ 100;unfold Ry ON; grind
 show (JC z i p).length ≤ 1000;unfold JC kZ; split
 ·simp
 split
 ·rw [kT]; omega
 simp
end
namespace Nt
theorem Bi : lV 1224481 := gX (k := 1110) (Om) (Om) (by decide +kernel)
theorem Db : lV 531581 := gX (k := 730) (Om) (Om) (by decide +kernel)
theorem SR : lV 1257559732178653 :=
 jG (F := 1224481 * 531581) (Om) (Om) fun _ hr hd => pT (by decide +kernel) (iY (m := 1027014492) Bi 60 2 (by decide +kernel) hr hd) (iY (m := 2365697292) Db 60 2 (by decide +kernel) hr hd)
theorem TW : lV 4434155615661930479 :=
 jG (F := 1257559732178653) (Om) (Om) fun _ hr hd => iY (m := 3526) SR 64 2 (by decide +kernel) hr hd
theorem Tc : lV 172054593956031949258510691 :=
 jG (F := 4434155615661930479) (Om) (Om) fun _ hr hd => iY (m := 38802110) TW 90 2 (by decide +kernel) hr hd
theorem Ub : lV 19757330305831588566944191468367130476339 :=
 jG (F := 172054593956031949258510691) (Om) (Om) fun _ hr hd => iY (m := 114831751082918) Tc 140 2 (by decide +kernel) hr hd
theorem SA : lV 276602624281642239937218680557139826668747 :=
 jG (F := 19757330305831588566944191468367130476339) (Om) (Om) fun _ hr hd => iY (m := 14) Ub 140 2 (by decide +kernel) hr hd
theorem MC : lV 7237005577332262213973186563042994240857116359379907606001950938285454250989 :=
 jG (F := 276602624281642239937218680557139826668747) (Om) (Om) fun _ hr hd => iY (m := 26163907866482859529727157400808004) SA 256 2 (by decide +kernel) hr hd
end Nt
namespace Ed
open Fp Nt
theorem mul_gcd (x y : Nat) : mul x B = O → mul y B = O → mul (Nat.gcd x y) B = O := by
  induction x, y using Nat.gcd.induction with
  | H0 y => intro _ h; rwa [Nat.gcd_zero_left]
  | H1 x y hx ih =>
    intro h1 h2
    rw [Nat.gcd_rec]
    refine ih ?_ h1
    have e : y = x * (y / x) + y % x := (Nat.div_add_mod y x).symm
    rw [e, mul_add iH, jg iH, h1, FD, wI] at h2
    exact h2
theorem HQ (h : mul n B = O) : L ∣ n := by
 have hg := mul_gcd n L h uE;rcases MC.2 (Nat.gcd n L) (Nat.gcd_dvd_right n L) with h1 | h1
 ·rw [h1, mul_one] at hg;exact absurd hg (by decide +kernel)
 have := Nat.gcd_dvd_left n L;rw [h1] at this; exact this
theorem OU {Q : F × F} (hQ : On Q) (YU : uu Q = 0) : mul 2 Q = O := by
 have h2 : Q.2 * Q.2 = 1 := by
  unfold uu at YU;rcases zero_or YU with h | h
  ·have : Q.2 = -1 := by generalize Q.2 = y at *; clear YU; grind
   rw [this]; decide +kernel
  have h3 : 1 - Q.2 = 0 := Classical.byContradiction fun hc => Mb hc h;have : Q.2 = 1 := by generalize Q.2 = y at *; clear YU h; grind
  rw [this]; decide +kernel
 have hx := N5 hQ h2;show add (add O Q) Q = O;rw [wI]
 have : Q = neg Q := by
  obtain ⟨x, y⟩ := Q;unfold neg
  simp only at *
  subst hx;refine Prod.ext ?_ rfl;show (0 : F) = -0;decide +kernel
 rw [show add Q Q = add Q (neg Q) from by rw [← this], add_neg hQ]
theorem MI : ∀ (l : Lb) (k : Nat), 256 ^ k * (l.getD k 0).toNat ≤ num l
  | [], k => by simp
  | x :: l, 0 => by show 256 ^ 0 * x.toNat ≤ x.toNat + 256 * num l;omega
  | x :: l, k + 1 => by have h := MI l k;show 256 ^ (k + 1) * (l.getD k 0).toNat ≤ x.toNat + 256 * num l;rw [Nat.pow_succ, Nat.mul_comm (256 ^ k) 256, Nat.mul_assoc];omega
theorem Bu (xs : Lb) : 28948022309329048855892746252171976963317496166410141009864396001978282409984 ≤ num (cQ xs) := by have h := MI (cQ xs) 31;rw [ur] at h;omega
theorem rY (xs : Lb) : num (cQ xs) % 8 = 0 := by have h1 := wA (cQ xs);rw [rS] at h1;omega
theorem J0 {K : Nat} (h1 : K < 57896044618658097711785492504343953926634992332820282019728792003956564819968) (h2 : 28948022309329048855892746252171976963317496166410141009864396001978282409984 ≤ K) (h3 : K % 8 = 0) :
  ¬ 7237005577332262213973186563042994240857116359379907606001950938285454250989 ∣ K := by
 rintro ⟨k, rfl⟩;have hk : k < 8 := Nat.lt_of_mul_lt_mul_left (Nat.lt_trans h1 (show (57896044618658097711785492504343953926634992332820282019728792003956564819968 : Nat) < 7237005577332262213973186563042994240857116359379907606001950938285454250989 * 8 from Nat.le_of_ble_eq_true rfl));have hall : ∀ k : Fin 8, (7237005577332262213973186563042994240857116359379907606001950938285454250989 * k.val) % 8 = 0 → k.val = 0 := by decide +kernel
 have h0 := hall ⟨k, hk⟩ h3;have YU : k = 0 := h0;subst YU;exact absurd h2 (Nat.not_le_of_lt Nb)
theorem DE : ¬ 7237005577332262213973186563042994240857116359379907606001950938285454250989 ∣ 2 := by decide +kernel
theorem Ov (hM : M < 57896044618658097711785492504343953926634992332820282019728792003956564819968) (hN : N < 57896044618658097711785492504343953926634992332820282019728792003956564819968)
  (gM : 28948022309329048855892746252171976963317496166410141009864396001978282409984 ≤ M) (gN : 28948022309329048855892746252171976963317496166410141009864396001978282409984 ≤ N) (eM : M % 8 = 0) (eN : N % 8 = 0) :
  ¬ 7237005577332262213973186563042994240857116359379907606001950938285454250989 ∣ N * M * 2 := fun hd => by
 rcases MC.dvd_mul hd with h3 | h3
 ·rcases MC.dvd_mul h3 with h4 | h4
  ·exact J0 hN gN eN h4
  exact J0 hM gM eM h4
 exact DE h3
theorem Ke {K : Nat} (h : ¬ 7237005577332262213973186563042994240857116359379907606001950938285454250989 ∣ K * 2) : uu (mul K B) ≠ 0 := fun h0 => by have h2 := OU (eR iH K) h0;rw [← jg iH] at h2;exact h (HQ h2)
theorem Hi (xs ys : Lb) : eV (num (cQ xs)) (eV (num (cQ ys)) (of 9)) ≠ 0 := by
 have hp : (2 : Nat) ^ 255 = 57896044618658097711785492504343953926634992332820282019728792003956564819968 := by decide +kernel
 have hM := pF xs;have hN := pF ys;have gM := Bu xs;have gN := Bu ys;have eM := rY xs;have eN := rY ys;have fM := lk xs;have fN := lk ys
 generalize num (cQ xs) = M at *
 generalize num (cQ ys) = N at *
 rw [← Vd, kG iH N hN fN, kG (eR iH N) M hM fM, ← jg iH];rw [hp] at hM hN;exact Ke (Ov hM hN gM gN eM eN)
end Ed
section
open Ae Gm Hk
theorem zq : ∀ l : List UInt8, (∀ x ∈ l, x = 0) → Fp.num l = 0
  | [], _ => rfl
  | x :: l, h => by have h1 := h x (List.mem_cons_self ..);have h2 := zq l (fun y hy => h y (List.mem_cons_of_mem _ hy));show x.toNat + 256 * Fp.num l = 0;rw [h1, h2]; rfl
theorem Tr {v : Nat} (hv : v < 256 ^ 32) (h : v ≠ 0) : (Fp.le 32 v).any (fun x => decide (x ≠ 0)) = true := by refine Classical.byContradiction fun hc => h ?_;rw [← Fp.mo 32 v hv];refine zq _ fun x hx => Classical.byContradiction fun YU => hc ?_;exact List.any_eq_true.2 ⟨x, hx, decide_eq_true YU⟩
theorem Cy (u : Fp.F) : u.val < 256 ^ 32 := Nat.lt_trans u.isLt (by unfold Fp.p; decide +kernel)
theorem Tx {u : Fp.F} (h : u ≠ 0) : u.val ≠ 0 := fun h0 => h (Fin.ext (by rw [h0]; rfl))
theorem Lu (xs : Lb) : iZ xs = Fp.le 32 (eV (Fp.num (cQ (fS xs))) (Fp.of 9)).val := by unfold iZ; rw [NT, Lw (dO xs)]
def both (xs ys : Lb) : List UInt8 := Fp.le 32 (eV (Fp.num (cQ (fS ys))) (eV (Fp.num (cQ (fS xs))) (Fp.of 9))).val
theorem Tm {xs : Lb} {u : Fp.F} (hx : xs.length = 32) (hne : eV (Fp.num (cQ xs)) u ≠ 0) : uY xs (Fp.le 32 u.val) = (Fp.le 32 (eV (Fp.num (cQ xs)) u).val, 0) := by have h1 := Lw (u := u) hx;have h2 := Tr (Cy _) (Tx hne);unfold uY;rw [h1];simp only;rw [if_neg (by simp), if_pos h2]
theorem zV (xs ys : Lb) : uY (fS ys) (iZ xs) = (both xs ys, 0) := by rw [Lu]; exact Tm (dO ys) (Ed.Hi _ _)
theorem CI (xs ys : Lb) : uY (fS xs) (iZ ys) = (both xs ys, 0) := by rw [zV ys xs];unfold both;rw [Ed.CY _ _ (Ed.pF _) (Ed.pF _) (Ed.lk _) (Ed.lk _)]
def By (xs ys : Lb) : List UInt8 := VN (both xs ys) (iZ ys) (iZ xs)
theorem No (xs ys : Lb) : yt (iZ xs) ys = (By xs ys, iZ ys, 0) := by unfold yt By;rw [zV, if_neg (by simp)]
theorem JH (xs ys : Lb) : yq (fS xs) (iZ ys) = (By xs ys, 0) := by unfold yq By;rw [CI, if_neg (by simp)];rfl
theorem EM (xs ys is ts ms : Lb) : sl (iZ xs) ys is ts ms = (iZ ys, gO (zW (By xs ys) is) (yT (By xs ys) is) ts ms, 0) := by unfold sl; rw [No, if_neg (by simp)]
theorem Ol (xs ys is ts ms : Lb) : op (fS xs) (iZ ys) is (gO (zW (By xs ys) is) (yT (By xs ys) is) ts ms) ms = (ts, 0) := by unfold op; rw [JH, if_neg (by simp), yv]; rfl
end
section
open Wire Nd Hk
/-! What the law makes never errs, and is small. -/
theorem CZ (p : Nat × Nat) (i : Nat) : UO (-1) i p = ⟨cK p, kZ p⟩ := by
 have h : ∀ q, ¬ ((i : Int) = -1 ∧ q) := fun q h => Om
 unfold UO JC Ry ON;rw [if_neg (h _), if_neg (h _), if_neg (h _)];rfl
theorem zZ (j seed inf : Lb) (k : Nat) (p : Nat × Nat) : (gP j seed inf k ⟨cK p, kZ p⟩).1.length = 32 ∧ (gP j seed inf k ⟨cK p, kZ p⟩).2.1.length = (mc j (kZ p)).length + 16 ∧ (gP j seed inf k ⟨cK p, kZ p⟩).2.2 = 0 := by unfold gP;rw [show (⟨cK p, kZ p⟩ : Gs).pk.init = iZ (ll (ma p)) from rfl, EM];exact ⟨de _, Gm.mP _ _ _ _, rfl⟩
theorem lO (p : Nat × Nat) : (kZ p).length = 0 ∨ (kZ p).length = 32 := by unfold kZ; split; exact .inr (kT _); exact .inl rfl
theorem UT {l q : Nat} (h : l = q + 16) (h1 : q ≤ a + b + 20) (ha : a = 32) (hb : b = 0 ∨ b = 32) : 0 < l ∧ l ≤ 200 := Om
def GQ (v : Lb) (r : List UInt8 × List UInt8 × Nat) : nJ := ⟨v, r.1, r.2.1⟩
theorem Tv {v : Lb} {r : List UInt8 × List UInt8 × Nat} (h0 : v.length = 32) (h1 : r.1.length = 32) (h2 : 0 < r.2.1.length ∧ r.2.1.length ≤ 200) : (GQ v r).ref.length = 32 ∧ (GQ v r).enc.length = 32 ∧ 0 < (GQ v r).box.length ∧ (GQ v r).box.length ≤ 200 := ⟨h0, h1, h2⟩
theorem LU (hj : j.length = 32) (seed inf : Lb) (k : Nat) (p : Nat × Nat) : nH j seed inf k ⟨cK p, kZ p⟩ = (GQ (dW (cK p)) (gP j seed inf k ⟨cK p, kZ p⟩), 0) := by
 have h1 : dn (cK p) := uI (ident := [UInt8.ofNat p.1]) (ma p) (by simp) (by simp)
 have h2 : lT j (kZ p) := ⟨hj, lO p⟩
 unfold nH;rw [if_neg (fun h => h.elim (fun h => h h1) (fun h => h h2)), (zZ j seed inf k p).2.2];rfl
theorem Lc (hj : j.length = 32) (seed inf : Lb) (k : Nat) (p : Nat × Nat) {g : nJ} (e : g = GQ (dW (cK p)) (gP j seed inf k ⟨cK p, kZ p⟩)) : g.ref.length = 32 ∧ g.enc.length = 32 ∧ 0 < g.box.length ∧ g.box.length ≤ 200 := by obtain ⟨h1, h2, _⟩ := zZ j seed inf k p;rw [e];exact Tv (pC _) h1 (UT h2 (Fy j (kZ p)) hj (lO p))
theorem Ai {ps : List (Nat × Nat)} (hj : (ts.getD 0 []).length = 32) (hi : dk i) (hn : n ≤ 60) (hl : ps.length = n) :
  (gd ts i (fC (-1) ps n) seed).2 = 0 ∧ (gd ts i (fC (-1) ps n) seed).1.Small ∧ (gd ts i (fC (-1) ps n) seed).1.guests.length = n ∧ 0 < (gd ts i (fC (-1) ps n) seed).1.info.length ∧ ∀ g ∈ (gd ts i (fC (-1) ps n) seed).1.guests, g.ref.length = 32 ∧ g.enc.length = 32 ∧ 0 < g.box.length := by
 have hgl : (fC (-1) ps n).length = n := by unfold fC; simp
 have hget : ∀ k, k < n → (fC (-1) ps n).getD k ⟨Pack.zero, []⟩ = ⟨cK (ps.getD k (0, 0)), kZ (ps.getD k (0, 0))⟩ := fun k hk => by unfold fC; rw [List.getD_eq_getElem?_getD, List.getElem?_map, List.getElem?_range hk]; exact CZ _ _
 unfold gd;rw [if_neg (fun h => h hi), if_neg Om]
 obtain ⟨V, hV⟩ : ∃ V, V = Gm.gO (Kdf.label (ts.getD 1 []) uz.data.toList [] 16) (Kdf.label (ts.getD 1 []) jt.data.toList [] 12) (mb i) [] := ⟨_, rfl⟩
 rw [← hV];have hVl : V.length = (mb i).length + 16 := by rw [hV]; exact Gm.mP _ _ _ _
 have hat : ∀ k, k < n → qM (ts.getD 0 []) seed V (fC (-1) ps n) k = (GQ (dW (cK (ps.getD k (0, 0)))) (gP (ts.getD 0 []) seed V k ⟨cK (ps.getD k (0, 0)), kZ (ps.getD k (0, 0))⟩), 0) := fun k hk => by unfold qM; rw [hget k hk]; exact LU hj _ _ _ _
 rw [Eb (fun k hk => by rw [hat k Om])]
 have hB : (mb i).length ≤ 400 := by obtain ⟨h1, h2, h3, h4, _, h6⟩ := hi;have g1 := bH i.ctx.grp.length; have g2 := bH i.ctx.tree.length; have g3 := bH i.ctx.trans.length; have g4 := bH i.tag.length; have g5 := bH i.sig.length;unfold mb jX cy; simp [jr, ji]; omega
 have hg : ∀ g ∈ (List.range (fC (-1) ps n).length).map (fun k => (qM (ts.getD 0 []) seed V (fC (-1) ps n) k).1), g.ref.length = 32 ∧ g.enc.length = 32 ∧ 0 < g.box.length ∧ g.box.length ≤ 200 := fun g hg => by obtain ⟨k, hk, rfl⟩ := List.mem_map.1 hg;rw [List.mem_range, hgl] at hk;exact Lc hj seed V k (ps.getD k (0, 0)) (by rw [hat k hk])
 refine ⟨rfl, ⟨?_, fun g h => ?_, ?_⟩, ?_, ?_, fun g h => ?_⟩
 ·simp; omega
 ·obtain ⟨h1, h2, h3, h4⟩ := hg g h; exact ⟨Om, Om, h4⟩
 ·grind
 ·simp [hgl]
 ·grind
 grind
end
section
open Wire Nd Hk
namespace M20
theorem CH (hj : j.length = 32) (hy : y.length = 0 ∨ y.length = 32) : kE (.ok (mc j y)) = ((j, decide (0 < y.length), y), .ok []) := by
 unfold kE mc;rcases hy with hy | hy
 ·rw [if_pos hy];obtain rfl := List.eq_nil_of_length_eq_zero hy;simp only [iP (v := j) Om, Lh]; rfl
 rw [if_neg Om, decide_eq_true Om, ← List.append_nil (vec y)];simp only [List.append_assoc, iP (v := j) Om, List.cons_append, List.nil_append, GW, if_true, iP (v := y) Om]
theorem Aw (hj : j.length = 32) (hy : y.length = 0 ∨ y.length = 32) : fY (mc j y) = ((j, decide (0 < y.length), y), 0) := by unfold fY;rw [CH hj hy];refine pP (decide_eq_true ⟨⟨hj, hy⟩, ?_⟩);simp
theorem DR (ok : dk i) (he : i.ctx.ep < 18446744073709551616) : nI (.ok (mb i)) = (i, .ok []) := by
 obtain ⟨h1, h2, h3, h4, ⟨h5, h6⟩, h7⟩ := ok;have hw : PN i.frm = i.frm.toNat := by unfold PN; omega
 have e : mb i = cy i.ctx ++ (be 1 0 ++ (vec i.tag ++ (be 4 i.frm.toNat ++ (vec i.sig ++ [])))) := by unfold mb jX;rw [hw];simp only [List.append_assoc, List.append_nil]; rfl
 rw [e];unfold nI;simp only [Dx (c := i.ctx) ⟨Om, Om, Om⟩ he, tO (k := 1) (n := 0) Om, iP (v := i.tag) Om, yj (k := 4) (n := i.frm.toNat) Om, iP (v := i.sig) Om];refine Prod.ext ?_ rfl;refine DZ.2 ⟨rfl, rfl, ?_, rfl⟩;grind
theorem yO (ok : dk i) (he : i.ctx.ep < 18446744073709551616) : eO (mb i) = (i, 0) := by unfold eO;rw [DR ok he];exact pP (decide_eq_true ok)
end M20
theorem CR {x : nG} {k : Nat} {p : Nat × Nat} (hj : j.length = 32) (ok : dk i) (he : i.ctx.ep < 18446744073709551616) (ht : i.tag = Mac.tag ((dD j i.ctx).getD 8 []) i.ctx.trans)
  (hx : x.info = Gm.gO (Kdf.label (ph j) uz.data.toList [] 16) (Kdf.label (ph j) jt.data.toList [] 12) (mb i) []) :
  Ev x (fS (ll (ma p))) (GQ (dW (cK p)) (gP j seed x.info k ⟨cK p, kZ p⟩)) = (⟨i, dD j i.ctx, kZ p⟩, 0) := by
 have ho : op (fS (ll (ma p))) (GQ (dW (cK p)) (gP j seed x.info k ⟨cK p, kZ p⟩)).enc (Hk.info tY x.info) (GQ (dW (cK p)) (gP j seed x.info k ⟨cK p, kZ p⟩)).box [] = (mc j (kZ p), 0) := by unfold GQ gP;rw [show (⟨cK p, kZ p⟩ : Gs).pk.init = iZ (ll (ma p)) from rfl, EM];exact Ol _ _ _ _ _
 unfold Ev;rw [ho, if_neg (by simp)];unfold yU;rw [M20.Aw hj (lO p), if_neg (by simp)];unfold PO;simp only;rw [hx, Gm.yv];show vV x j (kZ p) (mb i) = _;unfold vV;rw [M20.yO ok he, if_neg (by simp)];grind
theorem np (p : Nat × Nat) : dn (cK p) := uI (ident := [UInt8.ofNat p.1]) (ma p) (by simp) (by simp)
theorem AH {ps : List (Nat × Nat)} (hj : (ts.getD 0 []).length = 32) (hi : dk i) (hn : n ≤ 60) :
  (gd ts i (fC (-1) ps n) seed).1.info = Gm.gO (Kdf.label (ts.getD 1 []) uz.data.toList [] 16) (Kdf.label (ts.getD 1 []) jt.data.toList [] 12) (mb i) [] ∧
  (gd ts i (fC (-1) ps n) seed).1.guests = (List.range n).map fun k => GQ (dW (cK (ps.getD k (0, 0)))) (gP (ts.getD 0 []) seed (Gm.gO (Kdf.label (ts.getD 1 []) uz.data.toList [] 16) (Kdf.label (ts.getD 1 []) jt.data.toList [] 12) (mb i) []) k ⟨cK (ps.getD k (0, 0)), kZ (ps.getD k (0, 0))⟩) := by
 have hgl : (fC (-1) ps n).length = n := by unfold fC; simp
 unfold gd;rw [if_neg (fun h => h hi), if_neg Om]
 obtain ⟨V, hV⟩ : ∃ V, V = Gm.gO (Kdf.label (ts.getD 1 []) uz.data.toList [] 16) (Kdf.label (ts.getD 1 []) jt.data.toList [] 12) (mb i) [] := ⟨_, rfl⟩
 rw [← hV]
 have hat : ∀ k, k < n → qM (ts.getD 0 []) seed V (fC (-1) ps n) k = (GQ (dW (cK (ps.getD k (0, 0)))) (gP (ts.getD 0 []) seed V k ⟨cK (ps.getD k (0, 0)), kZ (ps.getD k (0, 0))⟩), 0) := fun k hk => by
  have hget : (fC (-1) ps n).getD k ⟨Pack.zero, []⟩ = ⟨cK (ps.getD k (0, 0)), kZ (ps.getD k (0, 0))⟩ := by unfold fC; rw [List.getD_eq_getElem?_getD, List.getElem?_map, List.getElem?_range hk]; exact CZ _ _
  unfold qM; rw [hget]; exact LU hj _ _ _ _
 rw [Eb (fun k hk => by rw [hat k Om])];simp_all
theorem DJ {α : Type} {f : Nat → α} {q : α → Bool} {k : Nat} (hk : k < n) (hq : q (f k) = true) (h : ∀ i, i < k → q (f i) = false) : ((List.range n).map f).find? q = some (f k) := by refine qy q _ k (f k) (by grind) ?_ hq;rw [← List.map_take, List.take_range];grind
theorem Bf {ps : List (Nat × Nat)} {k : Nat} (hj : j.length = 32) (ok : dk i) (he : i.ctx.ep < 18446744073709551616) (ht : i.tag = Mac.tag ((dD j i.ctx).getD 8 []) i.ctx.trans) (hn : n ≤ 60) (hk : k < n)
  (hne : ∀ a, a < k → dW (cK (ps.getD a (0, 0))) ≠ dW (cK (ps.getD k (0, 0)))) :
  eL (gd (dD j i.ctx) i (fC (-1) ps n) seed).1 (cK (ps.getD k (0, 0))) (fS (ll (ma (ps.getD k (0, 0))))) = (⟨i, dD j i.ctx, kZ (ps.getD k (0, 0))⟩, 0) := by
 obtain ⟨h1, h2⟩ := AH (ts := dD j i.ctx) (seed := seed) (ps := ps) hj ok hn;rw [tG (np _), h2, DJ (q := fun g : nJ => decide (g.ref = dW (cK (ps.getD k (0, 0))))) hk ?_ ?_]
 ·rw [← h1];exact CR hj ok he ht h1
 ·exact decide_eq_true rfl
 exact fun a ha => decide_eq_false (hne a ha)
theorem Bg {ps : List (Nat × Nat)} {q : Nat × Nat} (hj : j.length = 32) (ok : dk i) (hn : n ≤ 60) (hne : ∀ a, a < n → dW (cK (ps.getD a (0, 0))) ≠ dW (cK q)) :
  (eL (gd (dD j i.ctx) i (fC (-1) ps n) seed).1 (cK q) ini).2 = 7 := by
 obtain ⟨_, h2⟩ := AH (ts := dD j i.ctx) (seed := seed) (ps := ps) hj ok hn;rw [tG (np _), h2, List.find?_eq_none.2 fun x hx => ?_]
 ·rfl
 obtain ⟨a, ha, rfl⟩ := List.mem_map.1 hx;exact fun h => hne a (List.mem_range.1 ha) (aa2 h)
end
namespace Qk
def sq {α : Type} (n : Nat) (k : Nat → α) : α := Nat.rec (k 0) (fun m _ => k (Nat.succ m)) n
theorem Gr {α : Type} (n : Nat) (k : Nat → α) : sq n k = k n := by cases n <;> rfl
structure Ps where
 (D : Nat)
 (S1 S0 s1 s0 : Nat → Nat → Nat)
def ch (M e f g : Nat) : Nat := Nat.xor (Nat.land e f) (Nat.land (Nat.sub (Nat.sub M 1) e) g)
def yu (a b c : Nat) : Nat := Nat.xor (Nat.xor (Nat.land a b) (Nat.land a c)) (Nat.land b c)
def go (M : Nat) (P : Ps) : List Nat → (a b c d e f g h w0 w1 w2 w3 w4 w5 w6 w7 w8 w9 wa wb wc wd we wf : Nat) → Sha.S8
  | [], a, b, c, d, e, f, g, h, _, _, _, _, _, _, _, _, _, _, _, _, _, _, _, _ => ⟨a, b, c, d, e, f, g, h⟩
  | k :: ks, a, b, c, d, e, f, g, h, w0, w1, w2, w3, w4, w5, w6, w7, w8, w9, wa, wb, wc, wd, we, wf =>
    sq (Nat.add (Nat.add (Nat.add h (P.S1 (Nat.mul e P.D) e)) (ch M e f g)) (Nat.add k w0)) fun t =>
    sq (Nat.mod (Nat.add t (Nat.add (P.S0 (Nat.mul a P.D) a) (yu a b c))) M) fun a' => sq (Nat.mod (Nat.add d t) M) fun e' =>
    sq (Nat.mod (Nat.add (Nat.add (Nat.add (P.s1 (Nat.mul we P.D) we) w9) (P.s0 (Nat.mul w1 P.D) w1)) w0) M) fun wg =>
    go M P ks a' a b c e' e f g w1 w2 w3 w4 w5 w6 w7 w8 w9 wa wb wc wd we wf wg
structure VM (M : Nat) (P : Ps) (N : Nat) (K : List Nat) (st : Nat → Sha.S8) (W : Nat → Nat) : Prop where
 step : ∀ t, t < N → st (t + 1) = (let T := (st t).h + P.S1 ((st t).e * P.D) (st t).e + ch M (st t).e (st t).f (st t).g + (K.getD t 0 + W t)
  ⟨(T + (P.S0 ((st t).a * P.D) (st t).a + yu (st t).a (st t).b (st t).c)) % M, (st t).a, (st t).b, (st t).c, ((st t).d + T) % M, (st t).e, (st t).f, (st t).g⟩)
 word : ∀ t, W (t + 16) = (P.s1 (W (t + 14) * P.D) (W (t + 14)) + W (t + 9) + P.s0 (W (t + 1) * P.D) (W (t + 1)) + W t) % M
theorem Nn {M : Nat} {P : Ps} {N : Nat} {K : List Nat} {st : Nat → Sha.S8} {W : Nat → Nat} (R : VM M P N K st W) (hK : K.length = N) : ∀ n t, t + n = N →
    go M P (K.drop t) (st t).a (st t).b (st t).c (st t).d (st t).e (st t).f (st t).g (st t).h (W t) (W (t + 1)) (W (t + 2)) (W (t + 3)) (W (t + 4)) (W (t + 5)) (W (t + 6)) (W (t + 7)) (W (t + 8)) (W (t + 9)) (W (t + 10)) (W (t + 11)) (W (t + 12)) (W (t + 13)) (W (t + 14)) (W (t + 15)) = st N
  | 0, t, h => by
    obtain rfl : t = N := Om
    rw [List.drop_of_length_le Om]; rfl
  | n + 1, t, h => by
    have ih := Nn R hK n (t + 1) Om;have hs := R.step t Om;have hd : K.getD t 0 = K[t]'Om := by simp [List.getD_eq_getElem?_getD, List.getElem?_eq_getElem (show t < K.length by omega)]
    rw [hs, show t + 1 + 15 = t + 16 by omega, R.word t, hd] at ih;rw [List.drop_eq_getElem_cons Om];unfold go;simp only [Gr];exact ih
theorem Le {P : Ps} {K : List Nat} {st : Nat → Sha.S8} {W f : Nat → Nat} (R : VM M P N K st W) (hK : K.length = N) (h : ∀ i, i < 16 → f i = W i) :
  go M P K (st 0).a (st 0).b (st 0).c (st 0).d (st 0).e (st 0).f (st 0).g (st 0).h (f 0) (f 1) (f 2) (f 3) (f 4) (f 5) (f 6) (f 7) (f 8) (f 9) (f 10) (f 11) (f 12) (f 13) (f 14) (f 15) = st N := by
 rw [h 0, h 1, h 2, h 3, h 4, h 5, h 6, h 7, h 8, h 9, h 10, h 11, h 12, h 13, h 14, h 15]
 ·exact Nn R hK N 0 (Nat.zero_add N)
 all_goals decide
theorem Od {w : Nat} (hx : x < 2 ^ w) (hn : n ≤ w) : (x * (2 ^ w + 1)) >>> n % 2 ^ w = x / 2 ^ n + x % 2 ^ n * 2 ^ (w - n) := by
 have hp : 2 ^ w = 2 ^ n * 2 ^ (w - n) := by rw [← Nat.pow_add, Nat.add_sub_cancel' hn]
 have h1 := Nat.div_add_mod x (2 ^ n);have h2 : x % 2 ^ n < 2 ^ n := Nat.mod_lt _ (Nat.two_pow_pos n);have h3 : x / 2 ^ n < 2 ^ (w - n) := Nat.div_lt_of_lt_mul Om
 have h4 : x % 2 ^ n * 2 ^ (w - n) + 2 ^ (w - n) ≤ 2 ^ w := by have := Nat.mul_le_mul_right (2 ^ (w - n)) h2;grind
 rw [Nat.shiftRight_eq_div_pow, Nat.mul_add, Nat.mul_one];rw [show x * 2 ^ w + x = 2 ^ n * (x * 2 ^ (w - n)) + x by rw [hp]; grind, Nat.mul_add_div (Nat.two_pow_pos n)]
 rw [show x * 2 ^ (w - n) + x / 2 ^ n = (x / 2 ^ n) * 2 ^ w + (x / 2 ^ n + x % 2 ^ n * 2 ^ (w - n)) by
  grind]
 rw [Nat.mul_add_mod_self_right, Nat.mod_eq_of_lt Om]
theorem Qp {w : Nat} (hx : x < 2 ^ w) (ha : a ≤ w) (hb : b ≤ w) (hc : c ≤ w) : (((x * (2 ^ w + 1)) >>> a ^^^ (x * (2 ^ w + 1)) >>> b) ^^^ (x * (2 ^ w + 1)) >>> c) % 2 ^ w =
  ((x / 2 ^ a + x % 2 ^ a * 2 ^ (w - a)) ^^^ (x / 2 ^ b + x % 2 ^ b * 2 ^ (w - b))) ^^^ (x / 2 ^ c + x % 2 ^ c * 2 ^ (w - c)) := by
 rw [Nat.xor_mod_two_pow, Nat.xor_mod_two_pow, Od hx ha, Od hx hb, Od hx hc]
theorem Pf {w : Nat} (hx : x < 2 ^ w) (ha : a ≤ w) (hb : b ≤ w) : (((x * (2 ^ w + 1)) >>> a ^^^ (x * (2 ^ w + 1)) >>> b) % 2 ^ w) ^^^ x >>> c =
  ((x / 2 ^ a + x % 2 ^ a * 2 ^ (w - a)) ^^^ (x / 2 ^ b + x % 2 ^ b * 2 ^ (w - b))) ^^^ (x / 2 ^ c) := by
 rw [Nat.xor_mod_two_pow, Od hx ha, Od hx hb, Nat.shiftRight_eq_div_pow]
def VL (M a b c d : Nat) : Nat := Nat.mod (Nat.xor (Nat.xor (Nat.shiftRight d a) (Nat.shiftRight d b)) (Nat.shiftRight d c)) M
def VJ (M a b c d x : Nat) : Nat := Nat.xor (Nat.mod (Nat.xor (Nat.shiftRight d a) (Nat.shiftRight d b)) M) (Nat.shiftRight x c)
def Ly : Ps := ⟨4294967297, fun d _ => VL 4294967296 6 11 25 d, fun d _ => VL 4294967296 2 13 22 d, VJ 4294967296 17 19 10, VJ 4294967296 7 18 3⟩
def Lp : Ps := ⟨18446744073709551617, fun d _ => VL 18446744073709551616 14 18 41 d, fun d _ => VL 18446744073709551616 28 34 39 d, VJ 18446744073709551616 19 61 6, VJ 18446744073709551616 1 8 7⟩
/-! Words that are made one behind the other. -/
section
variable {e : Nat → List Nat} {v : Nat → Nat} (hz : (e 0).length = 16) (hs : ∀ k, e (k + 1) = e k ++ [v k])
include hz hs
theorem EA : ∀ k, (e k).length = 16 + k
 | 0 => hz
 | k + 1 => by rw [hs, List.length_append, EA k]; rfl
theorem Uw {t j : Nat} (ht : t < 16 + j) : ∀ n, (e (j + n)).getD t 0 = (e j).getD t 0
  | 0 => rfl
  | n + 1 => by rw [← Uw ht n, ← Nat.add_assoc, hs];simp only [List.getD_eq_getElem?_getD];rw [List.getElem?_append_left (by rw [EA hz hs]; omega)]
theorem DX {t k : Nat} (ht : t < 16 + k) : (e k).getD t 0 = (e t).getD t 0 := by
 rcases Nat.le_total k t with h | h
 ·have := Uw hz hs ht (t - k); rw [Nat.add_sub_cancel' h] at this; exact this.symm
 have := Uw hz hs (t := t) (j := t) Om (k - t); grind
theorem LZ (t : Nat) : (e (t + 16)).getD (t + 16) 0 = v t := by rw [← DX hz hs (k := t + 1) Om, hs, List.getD_eq_getElem?_getD, List.getElem?_append_right (by rw [EA hz hs]; omega), EA hz hs, show t + 16 - (16 + t) = 0 by omega];rfl
end
namespace Shaq
theorem Nc (hx : x < 2 ^ 32) : Ly.S1 (x * Ly.D) x = Sha.S1 x := Qp (w := 32) hx (a := 6) (b := 11) (c := 25) (by decide) (by decide) (by decide)
theorem NB (hx : x < 2 ^ 32) : Ly.S0 (x * Ly.D) x = Sha.S0 x := Qp (w := 32) hx (a := 2) (b := 13) (c := 22) (by decide) (by decide) (by decide)
theorem Ld (hx : x < 2 ^ 32) : Ly.s1 (x * Ly.D) x = Sha.s1 x := Pf (w := 32) hx (a := 17) (b := 19) (c := 10) (by decide) (by decide)
theorem Mn (hx : x < 2 ^ 32) : Ly.s0 (x * Ly.D) x = Sha.s0 x := Pf (w := 32) hx (a := 7) (b := 18) (c := 3) (by decide) (by decide)
def nx (l : Lb) (k : Nat) : Nat := Sha.gE (Sha.ext (Sha.gT l 16) k) k
def W (l : Lb) (t : Nat) : Nat := (Sha.ext (Sha.gT l 16) t).getD t 0
theorem qS (l : Lb) {t k : Nat} (h : t < 16 + k) : (Sha.ext (Sha.gT l 16) k).getD t 0 = W l t := DX (e := Sha.ext (Sha.gT l 16)) (v := nx l) (Sha.dt l 16) (fun _ => rfl) h
theorem JI (l : Lb) (t : Nat) : W l t < 2 ^ 32 := Sha.fJ (Sha.oC _ (Sha.oX l 16) t) t
theorem run (s : Sha.S8) (hs : s.ok) (l : Lb) : VM 4294967296 Ly 64 Sha.K (fun t => let s := Sha.rounds (Sha.words l) s t; s) (W l) where
 step t ht := by have ok := Sha.gk (Sha.words l) hs t;have hw : (Sha.words l).getD t 0 = W l t := qS l Om;show (let s := Sha.sH (Sha.rounds (Sha.words l) s t) (Sha.K.getD t 0) ((Sha.words l).getD t 0); s) = _;rw [hw];generalize Sha.rounds (Sha.words l) s t = q at ok;obtain ⟨h1, _, _, _, h5, _⟩ := ok;simp only [Nc h5, NB h1];show (⟨(q.h + Sha.S1 q.e + ch 4294967296 q.e q.f q.g + Sha.K.getD t 0 + W l t + (Sha.S0 q.a + yu q.a q.b q.c)) % 4294967296, q.a, q.b, q.c, (q.d + (q.h + Sha.S1 q.e + ch 4294967296 q.e q.f q.g + Sha.K.getD t 0 + W l t)) % 4294967296, q.e, q.f, q.g⟩ : Sha.S8) = _;rw [Nat.add_assoc _ (Sha.K.getD t 0)]
 word t := by have h := LZ (e := Sha.ext (Sha.gT l 16)) (v := nx l) (Sha.dt l 16) (fun _ => rfl) t;rw [show W l (t + 16) = _ from h, Ld (JI l _), Mn (JI l _)];unfold nx Sha.gE;rw [qS l Om, qS l Om, qS l Om, qS l Om]
def wd : List UInt8 → List Nat
 | a :: b :: c :: d :: r => (a.toNat * 16777216 + b.toNat * 65536 + c.toNat * 256 + d.toNat) :: wd r
 | _ => []
theorem tJ : ∀ (t : Nat) (l : Lb), 4 * (t + 1) ≤ l.length → (wd l)[t]? = some (Sha.LN l t)
  | 0, a :: b :: c :: d :: r, _ => by simp [wd, Sha.LN]
  | t + 1, a :: b :: c :: d :: r, hh => by have ih := tJ t r (by simp at hh; omega);rw [show (wd (a :: b :: c :: d :: r))[t + 1]? = (wd r)[t]? from rfl, ih];simp [Sha.LN, show 4 * (t + 1) = 4 * t + 4 by omega]
def fA (s : Sha.S8) (l : Lb) : Sha.S8 :=
 let f := fun i => (wd l).getD i 0
 let q := go 4294967296 Ly Sha.K s.a s.b s.c s.d s.e s.f s.g s.h (f 0) (f 1) (f 2) (f 3) (f 4) (f 5) (f 6) (f 7) (f 8) (f 9) (f 10) (f 11) (f 12) (f 13) (f 14) (f 15)
 s.add q
theorem step_eq {s : Sha.S8} (hs : s.ok) (hl : l.length = 64) : fA s l = Sha.step s l := by
 have h := Le (f := fun i => (wd l).getD i 0) (run s hs l) rfl fun i hi => by rw [← qS l (k := 0) Om, List.getD_eq_getElem?_getD, tJ i l Om];show Sha.LN l i = ((List.range 16).map (Sha.LN l)).getD i 0;grind
 unfold fA;simp only;rw [show go 4294967296 Ly Sha.K s.a s.b s.c s.d s.e s.f s.g s.h _ _ _ _ _ _ _ _ _ _ _ _ _ _ _ _ = _ from h];rfl
def blocks (s : Sha.S8) (l : Lb) : Nat → Sha.S8
 | 0 => s
 | k + 1 => fA (blocks s l k) ((l.drop (64 * k)).take 64)
theorem kz {s : Sha.S8} (hs : s.ok) (l : Lb) : ∀ k, 64 * k ≤ l.length → blocks s l k = Sha.blocks s l k
  | 0, _ => rfl
  | k + 1, h => by rw [blocks, kz hs l k Om, step_eq (Sha.gW hs l k) (by rw [List.length_take, List.length_drop]; omega)];rfl
def sum (b : Lb) : List UInt8 := (blocks Sha.IV (b ++ Sha.pad b.length) ((b ++ Sha.pad b.length).length / 64)).bytes
theorem mn : Sha.sum = sum := funext fun b => by unfold Sha.sum sum;rw [kz Sha.rD _ _ (Nat.mul_div_le _ _)]
end Shaq
namespace Lngq
theorem Nc (hx : x < 2 ^ 64) : Lp.S1 (x * Lp.D) x = Lng.S1 x := Qp (w := 64) hx (a := 14) (b := 18) (c := 41) (by decide) (by decide) (by decide)
theorem NB (hx : x < 2 ^ 64) : Lp.S0 (x * Lp.D) x = Lng.S0 x := Qp (w := 64) hx (a := 28) (b := 34) (c := 39) (by decide) (by decide) (by decide)
theorem Ld (hx : x < 2 ^ 64) : Lp.s1 (x * Lp.D) x = Lng.s1 x := Pf (w := 64) hx (a := 19) (b := 61) (c := 6) (by decide) (by decide)
theorem Mn (hx : x < 2 ^ 64) : Lp.s0 (x * Lp.D) x = Lng.s0 x := Pf (w := 64) hx (a := 1) (b := 8) (c := 7) (by decide) (by decide)
def nx (l : Lb) (k : Nat) : Nat := Lng.gE (Lng.ext (Lng.gT l 16) k) k
def W (l : Lb) (t : Nat) : Nat := (Lng.ext (Lng.gT l 16) t).getD t 0
theorem qS (l : Lb) {t k : Nat} (h : t < 16 + k) : (Lng.ext (Lng.gT l 16) k).getD t 0 = W l t := DX (e := Lng.ext (Lng.gT l 16)) (v := nx l) (Lng.dt l 16) (fun _ => rfl) h
theorem JI (l : Lb) (t : Nat) : W l t < 2 ^ 64 := Lng.fJ (Lng.oC _ (Lng.oX l 16) t) t
theorem run (s : Lng.S8) (hs : s.ok) (l : Lb) : VM 18446744073709551616 Lp 80 Lng.K (fun t => let s := Lng.rounds (Lng.words l) s t; (⟨s.a, s.b, s.c, s.d, s.e, s.f, s.g, s.h⟩ : Sha.S8)) (W l) where
 step t ht := by have ok := Lng.gk (Lng.words l) hs t;have hw : (Lng.words l).getD t 0 = W l t := qS l Om;show (let s := Lng.sH (Lng.rounds (Lng.words l) s t) (Lng.K.getD t 0) ((Lng.words l).getD t 0); (⟨s.a, s.b, s.c, s.d, s.e, s.f, s.g, s.h⟩ : Sha.S8)) = _;rw [hw];generalize Lng.rounds (Lng.words l) s t = q at ok;obtain ⟨h1, _, _, _, h5, _⟩ := ok;simp only [Nc h5, NB h1];show (⟨(q.h + Lng.S1 q.e + ch 18446744073709551616 q.e q.f q.g + Lng.K.getD t 0 + W l t + (Lng.S0 q.a + yu q.a q.b q.c)) % 18446744073709551616, q.a, q.b, q.c, (q.d + (q.h + Lng.S1 q.e + ch 18446744073709551616 q.e q.f q.g + Lng.K.getD t 0 + W l t)) % 18446744073709551616, q.e, q.f, q.g⟩ : Sha.S8) = _;rw [Nat.add_assoc _ (Lng.K.getD t 0)]
 word t := by have h := LZ (e := Lng.ext (Lng.gT l 16)) (v := nx l) (Lng.dt l 16) (fun _ => rfl) t;rw [show W l (t + 16) = _ from h, Ld (JI l _), Mn (JI l _)];unfold nx Lng.gE;rw [qS l Om, qS l Om, qS l Om, qS l Om]
def wd : List UInt8 → List Nat
 | a :: b :: c :: d :: e :: f :: g :: h :: r => (256 * (256 * (256 * (256 * (256 * (256 * (256 * (256 * 0 + a.toNat) + b.toNat) + c.toNat) + d.toNat) + e.toNat) + f.toNat) + g.toNat) + h.toNat) :: wd r
 | _ => []
theorem tJ : ∀ (t : Nat) (l : Lb), 8 * (t + 1) ≤ l.length → (wd l)[t]? = some (Lng.RO l t)
  | 0, a :: b :: c :: d :: e :: f :: g :: h :: r, _ => by simp [wd, Lng.RO, Lng.pre]
  | t + 1, a :: b :: c :: d :: e :: f :: g :: h :: r, hh => by have ih := tJ t r (by simp at hh; omega);rw [show (wd (a :: b :: c :: d :: e :: f :: g :: h :: r))[t + 1]? = (wd r)[t]? from rfl, ih];simp [Lng.RO, Lng.pre, show 8 * (t + 1) = 8 * t + 8 by omega]
def fA (s : Lng.S8) (l : Lb) : Lng.S8 :=
 let f := fun i => (wd l).getD i 0
 let q := go 18446744073709551616 Lp Lng.K s.a s.b s.c s.d s.e s.f s.g s.h (f 0) (f 1) (f 2) (f 3) (f 4) (f 5) (f 6) (f 7) (f 8) (f 9) (f 10) (f 11) (f 12) (f 13) (f 14) (f 15)
 s.add (⟨q.a, q.b, q.c, q.d, q.e, q.f, q.g, q.h⟩ : Lng.S8)
theorem step_eq {s : Lng.S8} (hs : s.ok) (hl : l.length = 128) : fA s l = Lng.step s l := by
 have h := Le (f := fun i => (wd l).getD i 0) (run s hs l) rfl fun i hi => by rw [← qS l (k := 0) Om, List.getD_eq_getElem?_getD, tJ i l Om];show Lng.RO l i = ((List.range 16).map (Lng.RO l)).getD i 0;grind
 unfold fA;simp only;rw [show go 18446744073709551616 Lp Lng.K s.a s.b s.c s.d s.e s.f s.g s.h _ _ _ _ _ _ _ _ _ _ _ _ _ _ _ _ = _ from h];rfl
def blocks (s : Lng.S8) (l : Lb) : Nat → Lng.S8
 | 0 => s
 | k + 1 => fA (blocks s l k) ((l.drop (128 * k)).take 128)
theorem kz {s : Lng.S8} (hs : s.ok) (l : Lb) : ∀ k, 128 * k ≤ l.length → blocks s l k = Lng.blocks s l k
  | 0, _ => rfl
  | k + 1, h => by rw [blocks, kz hs l k Om, step_eq (Lng.gW hs l k) (by rw [List.length_take, List.length_drop]; omega)];rfl
def sum (b : Lb) : List UInt8 := (blocks Lng.IV (b ++ Lng.pad b.length) ((b ++ Lng.pad b.length).length / 128)).bytes
theorem mn : Lng.sum = sum := funext fun b => by unfold Lng.sum sum;rw [kz Lng.rD _ _ (Nat.mul_div_le _ _)]
end Lngq
end Qk
section
open Wire Nd Hk
namespace Qk
/-! The layers above the digests, with the quick Lr. -/
def Ec (key : Lb) : List UInt8 := let k := if 64 < key.length then Shaq.sum key else key; k ++ iX (64 - k.length)
theorem TN : Mac.Ec = Ec := by funext key;unfold Mac.Ec Ec;rw [Shaq.mn]
def held (key : Lb) (c : UInt8) : List UInt8 := (Ec key).map (· ^^^ c)
theorem OM : Mac.held = held := by funext key c;unfold Mac.held held;rw [TN]
def tag (key text : Lb) : List UInt8 := Shaq.sum (held key 92 ++ Shaq.sum (held key 54 ++ text))
theorem LM : Mac.tag = tag := by funext key text;unfold Mac.tag tag;rw [Shaq.mn, OM]
theorem FW (s i : Lb) : Kdf.expand s i 32 = (tag s (i ++ [1])).take 32 := by unfold Kdf.expand;rw [show (32 + 31) / 32 = 0 + 1 from rfl];simp only [Kdf.BA, Kdf.T, List.nil_append];rw [LM, show UInt8.ofNat (0 + 1) = 1 from rfl]
def sn (s l : Lb) : List UInt8 := (tag s (Kdf.info l [] 32 ++ [1])).take 32
theorem te (s l : Lb) : Kdf.label s l [] 32 = sn s l := FW s _
def WZ (xs : Lb) : List UInt8 := (tag (tag [] (cat [Oc, Of, XP, iU xs])) (cat [iU (Wire.be 2 32), Oc, Of, V5, iU []] ++ [1])).take 32
theorem Sv (xs : Lb) : fS xs = WZ xs := by unfold fS Hk.exp Hk.ext WZ;rw [FW, LM]
/-! Powers and quotients. -/
def pw (a : Nat) : Nat → Nat → Nat
 | 0, _ => 1
 | k + 1, n => sq (pw a k (n / 2)) fun r => if n % 2 = 1 then r * r % Fp.p * a % Fp.p else r * r % Fp.p
theorem Rn (a : Nat) : ∀ k n, n < 2 ^ k → pw a k n % Fp.p = a ^ n % Fp.p
  | 0, n, h => by obtain rfl : n = 0 := (by simpa using h); rfl
  | k + 1, n, h => by
    have ih := Rn a k (n / 2) (by rw [Nat.pow_succ] at h; omega);unfold pw;rw [Gr];have e : (pw a k (n / 2) * pw a k (n / 2)) % Fp.p = a ^ (n / 2 * 2) % Fp.p := by rw [Nat.mul_mod, ih, ← Nat.mul_mod, Nat.pow_mul, Nat.pow_two]
    split
    · rename_i h1
      rw [Nat.mod_mod, e, Nat.mul_mod, Nat.mod_mod, ← Nat.mul_mod, ← Nat.pow_succ, show (n / 2 * 2).succ = n by omega]
    rw [Nat.mod_mod, e, show n / 2 * 2 = n by omega]
def inv (a : Fp.F) : Fp.F := Fp.of (pw a.val 255 (Fp.p - 2))
theorem inv_eq (a : Fp.F) : Fp.inv a = inv a := by unfold Fp.inv Fp.pow inv Fp.of;exact Fin.ext (Rn a.val 255 (Fp.p - 2) (by decide +kernel)).symm
def MB (n : Nat) : List UInt8 :=
 let q := Ed.sV (Ed.Sa Ed.B) n 253
 let w := inv q.z
 Fp.le 32 ((q.y * w).val + Ed.top * ((q.x * w).val % 2))
theorem MM (h : n < 2 ^ 253) : Ed.enc (Ed.mul n Ed.B) = MB n := by have r := Ed.xb (Ed.De Ed.B) Ed.iH n h 253 (Nat.le_refl _);rw [Nat.sub_self, Nat.pow_zero, Nat.div_one] at r;unfold MB Ed.enc;simp only;rw [← inv_eq, ← Ed.oH r.1 r.2.1, ← Ed.oH r.1 r.2.2.1]
def le (V : Nat) : List UInt8 := sq V fun v => Fp.le 32 v
def dh (xs : Lb) : List UInt8 :=
 let s := aY (Fp.of 9) (Fp.num (cQ (WZ xs))) 255
 le (s.1.1 * inv s.1.2).val
theorem QR (xs : Lb) : iZ xs = dh xs := by rw [Lu, Sv];unfold dh le eV;simp only [Gr, inv_eq]
def Dg (xs : Lb) : Nat := Fp.num (Lngq.sum xs) % Sc.L
def sec (k : Lb) : Nat := Fp.num ((Sg.iQ (Lngq.sum k)).take 32) % Sc.L
def sg (k A t : Lb) : List UInt8 :=
 sq (Dg ((Lngq.sum k).drop 32 ++ t)) fun r => let R := MB r
 R ++ le ((r + Dg (R ++ A ++ t) * sec k % Sc.L) % Sc.L)
theorem sR : Sc.L < 2 ^ 253 := by decide +kernel
theorem FM (k : Lb) : Sg.iZ k = MB (sec k) := by unfold Sg.iZ;rw [MM (n := Sg.sec k) (Nat.lt_trans (Nat.mod_lt _ Sc.rW) sR)];unfold Sg.sec Sg.raw sec;rw [Lngq.mn]
theorem QU (k t : Lb) : Sg.sig k t = sg k (MB (sec k)) t := by
 have hd : ∀ xs, Sg.Dg xs = Dg xs := fun xs => by unfold Sg.Dg Dg; rw [Lngq.mn]
 have hp : Sg.kh k t = MB (Dg ((Lngq.sum k).drop 32 ++ t)) := by unfold Sg.kh;rw [MM (n := Sg.sH k t) (Nat.lt_trans (Nat.mod_lt _ Sc.rW) sR)];unfold Sg.sH Sg.pre;rw [hd, Lngq.mn]
 unfold Sg.sig Sg.sum Sg.Cv sg le;simp only [Gr];rw [hp, FM];unfold Sg.sH Sg.pre Sg.sec Sg.raw;rw [hd, hd, Lngq.mn];rfl
def name (ident seed : Lb) : List UInt8 :=
 let k := sn seed r7.data.toList
 let A := MB (sec k)
 let u := vec (dh (sn seed Iv.data.toList)) ++ vec A ++ vec ident ++ [1]
 let t := [0, 1, 0, 1] ++ vec (dh (sn seed Gt.data.toList)) ++ (u ++ vec (sg k A (Sg.text Go.Proofs.YtgfafidlkldeaaaGreat.sn.data.toList u)))
 Shaq.sum (vec zy.data.toList ++ vec (t ++ vec (sg k A (Sg.text Kk.data.toList t))))
theorem Ga (ident seed : Lb) : dW (Oe ident seed) = name ident seed := by
 have h0 : ∀ s, dJ ((xK ident seed).put s) = vec (dh (sn seed Iv.data.toList)) ++ vec (MB (sec (sn seed r7.data.toList))) ++ vec ident ++ [1] := fun s => by show vec (iZ (Du seed)) ++ vec (Sg.iZ (ru seed)) ++ vec ident ++ [UInt8.ofNat 1] ++ [] = _;unfold Du ru;rw [QR, FM, te, te, List.append_nil]; rfl
 have h1 : ∀ s, lR ⟨iZ (ll seed), pO ident seed, s⟩ = [0, 1, 0, 1] ++ vec (dh (sn seed Gt.data.toList)) ++ ((vec (dh (sn seed Iv.data.toList)) ++ vec (MB (sec (sn seed r7.data.toList))) ++ vec ident ++ [1]) ++
   vec (sg (sn seed r7.data.toList) (MB (sec (sn seed r7.data.toList))) (Sg.text Go.Proofs.YtgfafidlkldeaaaGreat.sn.data.toList (vec (dh (sn seed Iv.data.toList)) ++ vec (MB (sec (sn seed r7.data.toList))) ++ vec ident ++ [1])))) := fun s => by
  show [0, 1, 0, 1] ++ vec (iZ (ll seed)) ++ (dJ (pO ident seed) ++ vec (Sg.sig (ru seed) (Sg.text _ (dJ ((xK ident seed).put []))))) = _;unfold pO;rw [h0, h0, QU, QR];unfold ru ll;rw [te, te]
 unfold dW yV Oe Kg name;rw [h1, h1, QU, Shaq.mn];unfold ru;rw [te]
end Qk
end
namespace Qk
def key (a : Nat) : Nat :=
 let l := name [UInt8.ofNat a] (pK (10 + a))
 ((l.getD 0 0).toNat * 65536 + (l.getD 1 0).toNat * 256 + (l.getD 2 0).toNat) % 5333
def jw : List Nat := [4982,3201,4482,3123,2913,783,4625,3795,1265,819,2223,1219,889,325,3650,5220,4500,4853,4320,1756,465,2892,1969,3107,5187,3619,3428,3023,2897,1534,3225,734,159,1232,3180,5033,3125,370,1589,3535,2905,5202,4712,3712,4909,2497,1863,4091,2467,2908,4009,243,4504,1744,509,1459,713,673,1131,3479,2037,4013,1624,1623,226,564,3336,2347,2646,4067,5313,4478,5279,3473,3434,4379,4705,4134,3290,5076,2065,3485,4081,1993,3976,4700,3190,1019,5198,1944,3666,60,1743,3419,3720,2383,4747,380,2477,3044,4740,877,1301,3855,2518,3031,726,2095,4862,442,1398,427,2007,3890,356,4332,3343,4266,2342,506,3407,2840,967,3872,516,727,261,4800,3430,5052,4086,4170,3772,1762,5084,4188,4474,3977,3223,613,2180,3512,531,5226,993,2874,1383,2380,890,4711,4289,2460,366,4850,3684,2231,4002,1567,902,1362,5051,4975,4060,1289,114,2604,3531,1591,4328,1511,3128,2523,1204,812,3503,1303,1981,2949,2486,441,3631,4116,2556,1794,2325,2864,2741,1501,4632,3240,4471,4040,4990,2452,5090,1557,1564,4205,4057,637,1663,3264,2354,1097,3796,1976,2644,3142,3516,2049,3149,2403,757,1634,4535,4836,1718,1664,1960,1576,4537,252,1628,1696,373,1430,477,111,4202,4837,2959,4406,4199,3819,1524,1138,584,3282,2869,3521,3848,1253,3846,2172,2552,606,2479,2804,1426,3545,5044,4025,3969,2793,3859,654]
abbrev kN2 (c : Nat) : Prop := (List.range 8).map (fun i => key (c + i)) = (jw.drop c).take 8
theorem GP : jw.Nodup := by decide +kernel
theorem Qy : jw.length = 256 := by decide +kernel
end Qk
end Go.Proofs.YtgfafidlkldeaaaGreat
