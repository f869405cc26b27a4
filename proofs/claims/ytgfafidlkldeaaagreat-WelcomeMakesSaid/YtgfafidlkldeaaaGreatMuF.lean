/- The reference's welcomes and secrets of bytes; a guest's secrets: what msg and the reference hand back. No conditions: contracts of functions. -/
import Derived.Test.YtgfafidlkldeaaaGreatSecE
import Derived.Test.YtgfafidlkldeaaaGreatAu
import Derived.Test.YtgfafidlkldeaaaGreatDhA
import Derived.Test.YtgfafidlkldeaaaGreatFieldQ
import Derived.Test.YtgfafidlkldeaaaGreatCtxA
import Derived.Test.YtgfafidlkldeaaaGreatGmF
import Derived.Test.YtgfafidlkldeaaaGreatMuC
set_option linter.unusedVariables false
set_option linter.unusedSimpArgs false
set_option maxHeartbeats 4000000
set_option maxRecDepth 4000
namespace Go.Proofs.YtgfafidlkldeaaaGreat
section
open Go.RowKit Tryz
attribute [local irreducible] Y Ef WL WC WK WQ WM cx WN WF cT
open Hk
theorem BO {w : World} {A a a' : Oa} {n g b c b' c' : Nat} {t : TypeId} {xs : Lb} (H : Bs w A n xs) (B : ao w g t #[.slice a b c, .slice a' b' c']) (hn : 0 < n) (o : Nat) : A ≠ some ⟨g, o, none⟩ := by
 rintro rfl
 obtain ⟨b1, off, e, _, hc⟩ := H.get (k := 0) hn
 injection e with e
 injection e with e1 e2 _
 subst e1; subst e2
 rw [B.cell] at hc
 rcases o with _ | _ | o
 ·simp at hc
 ·simp at hc
 ·simp at hc
theorem tT (is : Lb) : [[0], Hk.ext vU [] Mz [], Hk.ext vU [] inf is].flatten = ctx is := by simp [ctx]
theorem pA (is : Lb) : (ctx is).length = 65 := by unfold ctx; simp [eu]
theorem yZ (A B : Oa) (n c m d : Nat) (xs is : Lb) (w : World) (HA : Bs w A n xs) (hn : n ≤ 1000) (HB : Bs w B m is) (hm : m ≤ 8000) :
  Ct 166 #[.slice A n c, .slice B m d] w fun e w' => ∃ A1 c1 A2 c2, e = .returned (.agg #[.slice A1 16 c1, .slice A2 12 c2]) ∧ Bs w' A1 16 (Kx xs is) ∧ Bs w' A2 12 (Kz xs is) ∧ 16 ≤ c1 ∧ 12 ≤ c2 ∧ Ext w w' := by
 have F := aX.refl [] w
 have KA : Kp w.heap.size [] (fun w => Bs w A n xs) w := Kp.bs HA (by simp)
 have KB : Kp w.heap.size [] (fun w => Bs w B m is) w := Kp.bs HB (by simp)
 refine aI (s := 2) 22 func166 rfl rfl rfl underlying209 rfl Kr rfl ?_
 intro _ hret
 refine aU ?_
 intro _ Vm B4 Vl ex
 have Vp := B4.lt
 replace F := F.grow ex Vl
 replace KA := KA.grow ex Vl
 replace KB := KB.grow ex Vl
 refine aU ?_
 refine af (aB (z := .int .u8 0) Tn.u Kr rfl rfl rfl rfl rfl) rfl ?_
 rintro _ _ ⟨_, rfl, D1, _, ex⟩
 obtain ⟨F,KA,KB,B4⟩ := bU ex F KA KB B4
 have H1 := aZ (xs := [0]) (D1.congr rfl) rfl
 refine aL func137 rfl (eV vU Mz none none 0 0 0 0 [] [] _ (Bs.nil _ _) Om (Bs.nil _ _) Om (by decide) (by decide)) ?_
 rintro e _ ⟨A2, c2, rfl, H2, ex⟩
 obtain ⟨F,KA,KB,B4,H1⟩ := gQ ex F KA KB B4 H1
 refine aU ?_
 refine aL func137 rfl (eV vU inf none B 0 0 m d [] is _ (Bs.nil _ _) Om KB.out Om (by decide) (by decide)) ?_
 rintro e _ ⟨_, _, rfl, H3, ex⟩
 obtain ⟨F,KA,B4,H1,H2⟩ := gQ ex F KA B4 H1 H2
 refine aU ?_
 refine af (aB (z := .slice none 0 0) Tn.u Kr rfl rfl rfl rfl rfl) rfl ?_
 rintro _ _ ⟨_, rfl, D4, _, ex⟩
 obtain ⟨F,KA,B4,H1,H2,H3⟩ := gL ex F KA B4 H1 H2 H3
 have S4 := jL D4 H1 H2 H3
 refine aL func184 rfl (nA _ 3 3 [[0], Hk.ext vU [] Mz [], Hk.ext vU [] inf is] _ S4 Om (by rw [tT, pA]; omega)) ?_
 rintro e _ ⟨A5, k5, c5, rfl, R5, ex⟩
 obtain ⟨F,KA,B4⟩ := bC ex F KA B4
 have H5 := R5.bs; rw [tT] at H5; obtain rfl : k5 = 65 := by rw [← H5.1, pA]
 refine aU ?_
 refine aL func137 rfl (eV vU sec A none n c 0 0 xs [] _ KA.out Om (Bs.nil _ _) Om (by decide) (by decide)) ?_
 rintro e _ ⟨A6, c6, rfl, H6, ex⟩
 obtain ⟨F,B4,H5⟩ := bC ex F B4 H5
 refine aU ?_
 refine aL func136 rfl (gT vU Mf A6 A5 32 c6 65 c5 16 _ (ctx is) _ H6 Om H5 Om (by decide) (by decide) Om) ?_
 rintro e _ ⟨A7, c7, rfl, ⟨H7, _⟩, Vn, ex⟩
 obtain ⟨F,B4,H5,H6⟩ := bU ex F B4 H5 H6
 refine aU ?_
 refine aL func136 rfl (gT vU Mo A6 A5 32 c6 65 c5 12 _ (ctx is) _ H6 Om H5 Om (by decide) (by decide) Om) ?_
 rintro e _ ⟨A8, c8, rfl, ⟨H8, _⟩, Vo, ex⟩
 obtain ⟨F,B4,H7⟩ := bC ex F B4 H7
 refine au 1 ?_
 refine ak (aJ rfl (cells := #[.slice A7 16 c7, .slice A8 12 c8]) Kr) ?_
 replace B4 := B4.congr (cs' := #[.slice none 0 0, .slice none 0 0]) rfl
 have K7 := Kp.bs (S := [Vm]) H7 (fun h g hg o => by simp at hg; subst hg; exact BO H7 B4 h o)
 have K8 := Kp.bs (S := [Vm]) H8 (fun h g hg o => by simp at hg; subst hg; exact BO H8 B4 h o)
 refine aU ?_
 intro _ D cg
 have ex := aX.one cg
 clear cg
 obtain ⟨F,K7,K8⟩ := AN ex F K7 K8
 replace B4 := D; clear D
 replace B4 := B4.congr (cs' := #[.slice A7 16 c7, .slice A8 12 c8]) rfl
 refine aU ?_
 refine hret rfl B4 rfl ?_
 exact ⟨A7, c7, A8, c8, rfl, K7.out, K8.out, Vn, Vo, F.drop Om |>.cM (by simp)⟩
theorem IE (A B : Oa) (c d : Nat) (w : World) : Ct 103 #[.slice A 16 c, .slice B 12 d] w fun e w' => e = .returned (.bool true) ∧ Ext w w' := by
 refine aj 13 func103 rfl rfl rfl rfl ?_
 intro _ hret
 refine aU ?_
 refine hret rfl ?_
 exact ⟨rfl, Ext.refl _⟩
end
section
open Go.RowKit
attribute [local irreducible] Y Ef WL WC WK WQ WM cx WN WF cT
open Hk
namespace Hk
def AZ : List UInt8 := [77, 76, 83, 32, 49, 46, 48, 32]
def info (lb : ByteArray) (cs : Lb) : List UInt8 := Wire.vec (AZ ++ sb lb) ++ Wire.vec cs
end Hk
end
section
open Go.RowKit Tryz
attribute [local irreducible] Y Ef WL WC WK WQ WM cx WN WF cT WJ gZ WR qo
open Ae Gm
namespace Gm
def jz (key nn ts ms : Lb) : List UInt8 := Li key nn ts ++ tag key nn (Li key nn ts) ms
def OA (key nn bx ms : Lb) : Option (List UInt8) :=
 if bx.length < 16 then none else if tag key nn (bx.take (bx.length - 16)) ms = bx.drop (bx.length - 16) then some (Li key nn (bx.take (bx.length - 16))) else none
theorem jD (key nn ts ms : Lb) : (jz key nn ts ms).length = ts.length + 16 := by unfold jz; rw [List.length_append, wL, dN]
end Gm
theorem mT {A B C G : Oa} {n m c d e f : Nat} {key nn ts ms : Lb} (w : World) (HA : Bs w A 16 key) (HB : Bs w B 12 nn) (HC : Bs w C n ts) (hn : n ≤ 90000) (HG : Bs w G m ms) (hm : m ≤ 90000) (hmf : m ≤ f) :
  Ct 55 #[.slice A 16 c, .slice B 12 d, .slice C n e, .slice G m f] w fun e w' => ∃ A' c', e = .returned (.tuple #[.slice A' (n + 16) c', .bool true]) ∧ Row w' w.heap.size 5 A' (n + 16) c' ((jz key nn ts ms).map bv) ∧ Ext w w' := by
 have E := Ext.refl w
 refine bK 26 func55 rfl rfl rfl rfl ?_
 intro _ hret
 refine aU ?_
 refine aL func103 rfl (IE A B c d _) ?_
 rintro e _ ⟨rfl, ex⟩
 replace E := E.ext ex
 refine au 4 ?_
 refine cm rfl rfl ?_
 refine aU ?_
 have Vl := E.size
 refine aL func105 rfl (tf _ (HA.wk E) (HB.wk E) (HC.wk E) Om) ?_
 rintro e _ ⟨_, _, rfl, R2, ex⟩
 replace E := E.ext ex
 replace R2 := R2.lower Vl
 refine aU ?_
 refine aL func104 rfl (DN _ (HA.wk E) (HB.wk E) R2.bs Om R2.cap (HG.wk E) Om hmf) ?_
 rintro e _ ⟨_, _, rfl, R3, ex⟩
 refine aU ?_
 obtain ⟨E,R2⟩ := aY ex E R2
 have H3 := R3.bs; have Vm := E.size
 refine af (aQ rfl rfl bF R2 H3.2 (by rw [List.length_map, H3.1]) aH Om Om Vm) rfl ?_
 rintro _ _ ⟨A4, c4, rfl, R4, be, _, _⟩
 have E4 := E.trans be
 refine aU ?_
 refine hret rfl rfl ?_
 exact ⟨A4, c4, rfl, by unfold jz; rw [List.map_append]; exact R4, E4⟩
end
section
open Go.RowKit Tryz
attribute [local irreducible] Y Ef WL WC WK WQ WM cx WN WF cT WJ gZ WR qo
open Ae Gm Hk
namespace Hk
def sl (pb sd is ts ms : Lb) : List UInt8 × List UInt8 × Nat :=
 if (rk pb sd).2.2 ≠ 0 then ([], [], (rk pb sd).2.2) else ((rk pb sd).2.1, jz (Kx (rk pb sd).1 is) (Kz (rk pb sd).1 is) ts ms, 0)
def ob (o : Option (List UInt8)) : List UInt8 × Nat := (o.getD [], if o.isSome then 0 else 11)
def op (pv en is bx ms : Lb) : List UInt8 × Nat :=
 if (MC pv en).2 ≠ 0 then ([], (MC pv en).2) else ob (OA (Kx (MC pv en).1 is) (Kz (MC pv en).1 is) bx ms)
end Hk
theorem DR (xs ys : Lb) : (rk xs ys).2.2 < 256 := by
 unfold rk; split
 ·exact DS _ _
 ·show 0 < 256; omega
theorem sV {xs ys : Lb} (h : (rk xs ys).2.2 = 0) : (rk xs ys).2.1.length = 32 := by
 unfold rk at h ⊢
 split
 ·rename_i h1; rw [if_pos h1] at h; exact absurd h h1
 ·exact cK _
def Gn (base : Nat) (A B : Oa) : Prop := (∀ b o, A = some ⟨b, o, none⟩ → base ≤ b) ∧ ∀ b o, B = some ⟨b, o, none⟩ → base ≤ b ∧ ∀ c p, A = some ⟨c, p, none⟩ → c < b
theorem Gn.nil (base : Nat) : Gn base none none := ⟨fun _ _ e => (by cases e), fun _ _ e => (by cases e)⟩
theorem Gn.lo {base k : Nat} {A B : Oa} (h : Gn base A B) (hk : k ≤ base) : Gn k A B := ⟨fun b o e => Nat.le_trans hk (h.1 b o e), fun b o e => ⟨Nat.le_trans hk (h.2 b o e).1, (h.2 b o e).2⟩⟩
theorem La {k m s : Nat} {A B : Oa} (h1 : k ≤ m) (hA : ∀ b o, A = some ⟨b, o, none⟩ → m ≤ b) (h2 : k ≤ s) (hl : ∀ b o, A = some ⟨b, o, none⟩ → b < s) (hB : ∀ b o, B = some ⟨b, o, none⟩ → s ≤ b) : Gn k A B :=
 ⟨fun b o e => Nat.le_trans h1 (hA b o e), fun b o e => ⟨Nat.le_trans h2 (hB b o e), fun c q e' => Nat.lt_of_lt_of_le (hl c q e') (hB b o e)⟩⟩
theorem zJ (A B C D M : Oa) (n c m d k q z v i j : Nat) (xs ys is ts ms : Lb) (w : World) (HA : Bs w A n xs) (hn : n ≤ 1000) (HB : Bs w B m ys) (hm : m ≤ 1000) (HC : Bs w C k is) (hk : k ≤ 8000)
  (HD : Bs w D z ts) (hz : z ≤ 80000) (HM : Bs w M i ms) (hi : i ≤ 80000) (hij : i ≤ j) :
  Ct 125 #[.slice A n c, .slice B m d, .slice C k q, .slice D z v, .slice M i j] w fun e w' => ∃ A1 k1 c1 A2 k2 c2, e = .returned (.tuple #[.slice A1 k1 c1, .slice A2 k2 c2, .int .u8 ((sl xs ys is ts ms).2.2 : Int)]) ∧ Bs w' A1 k1 (sl xs ys is ts ms).1 ∧
   Bs w' A2 k2 (sl xs ys is ts ms).2.1 ∧ k1 ≤ 32 ∧ k2 ≤ z + 16 ∧ k2 ≤ c2 ∧ Gn w.heap.size A1 A2 ∧ Ext w w' := by
 have E := Ext.refl w
 refine jQ 40 func125 rfl rfl rfl rfl ?_
 intro _ hret
 refine aU ?_
 have z1 := E.size
 refine aL func189 rfl (zT A B n c m d xs ys _ HA hn HB hm) ?_
 rintro e _ ⟨A1, k1, c1, A2, k2, c2, rfl, H1, ⟨H2, n2⟩, _, Vm, ex⟩
 obtain ⟨HC,HD,HM,E⟩ := bU ex HC HD HM E
 refine aU ?_
 refine al rfl (fun Vn => ?_) (fun Vn => ?_)
 ·refine aU ?_
  refine hret rfl rfl rfl ?_
  exact ⟨none, 0, 0, none, 0, 0, by rw [sl, if_pos Om], by rw [sl, if_pos Om]; exact Bs.nil _ _, by rw [sl, if_pos Om]; exact Bs.nil _ _, by omega, by omega, by omega, Gn.nil _, E⟩
 ·refine aU ?_
  refine aL func166 rfl (yZ A1 C k1 c1 k q _ is _ H1 Om HC hk) ?_
  rintro e _ ⟨_, _, _, _, rfl, H3, H4, _, _, ex⟩
  obtain ⟨HD,HM,E,H2⟩ := bU ex HD HM E H2
  refine aU ?_
  intro _ _ Vo Vl exA
  refine aU ?_
  intro _ _ cg
  have ex := exA.aw cg Vl; clear cg exA Vo
  obtain ⟨HD,HM,E,H2,H3,H4⟩ := gL ex HD HM E H2 H3 H4
  refine aU ?_
  have z5 := E.size; have l5 : 0 < k2 := (by have := H2.1; have := sV (xs := xs) (ys := ys) Om; omega); have Vp : ∀ b o, A2 = some ⟨b, o, none⟩ → b < _ := fun b o e => (by subst e; exact Bs.IW H2 l5)
  refine aL func55 rfl (mT _ H3 H4 HD Om HM Om hij) ?_
  rintro e _ ⟨A5, c5, rfl, R5, ex⟩
  obtain ⟨E,H2⟩ := aY ex E H2
  have H5 := R5.bs
  refine aU ?_
  refine hret rfl rfl rfl ?_
  exact ⟨A2, k2, c2, A5, z + 16, c5, by rw [sl, if_neg Om]; rfl, by rw [sl, if_neg Om]; exact H2, by rw [sl, if_neg Om]; exact H5, Vm, Nat.le_refl _, R5.cap, La z1 n2 z5 Vp R5.bn.2, E⟩
theorem qm (lb : ByteArray) (B : Oa) (m d : Nat) (cs : Lb) (w : World) (h2 : lb.size ≤ 100) (HB : Bs w B m cs) (hm : m ≤ 6000) :
  Ct 91 #[.string lb, .slice B m d] w fun e w' => ∃ A' k c', e = .returned (.slice A' k c') ∧ Bs w' A' k (info lb cs) ∧ k ≤ 1000 + m ∧ Ext w w' := by
 have E := Ext.refl w
 have Vm := Wire.bu (8 + lb.size); have Vn := Wire.bu m
 have hcat : cat [⟨#[77, 76, 83, 32, 49, 46, 48, 32]⟩, lb] = AZ ++ sb lb := by rw [mu, mu]; show AZ ++ (sb lb ++ []) = _; rw [List.append_nil]
 have hcl : (AZ ++ sb lb).length = 8 + lb.size := by rw [List.length_append, nb]; rfl
 refine aj 11 func91 rfl rfl rfl rfl ?_
 intro _ hret
 refine aU ?_
 refine af (aB (z := .string ByteArray.empty) Tn.u Kr rfl rfl rfl rfl rfl) rfl ?_
 rintro _ _ ⟨_, rfl, B1, _, ex⟩
 obtain ⟨HB,E⟩ := aY ex HB E
 refine aL func167 rfl (oz [⟨#[77, 76, 83, 32, 49, 46, 48, 32]⟩, lb] 2 _ (B1.congr rfl) rfl Om (by rw [hcat, hcl]; omega)) ?_
 rintro e _ ⟨A2, _, c2, rfl, R2, ex⟩
 refine aU ?_
 obtain ⟨HB,E⟩ := aY ex HB E
 have H2 := R2.bs; rw [hcat] at H2; have Vl := H2.1; rw [hcl] at Vl; subst Vl
 refine aL func162 rfl (di none A2 0 0 _ c2 [] _ _ (Bs.nil _ _) Om H2 Om) ?_
 rintro e _ ⟨A3, k3, c3, rfl, R3, _, ex⟩
 obtain ⟨HB,E⟩ := aY ex HB E
 have H3 := R3.bs; rw [List.nil_append] at H3
 refine aU ?_
 refine aL func162 rfl (di A3 B k3 c3 m d _ cs _ H3 Om HB Om) ?_
 rintro e _ ⟨A4, k4, c4, rfl, R4, _, ex⟩
 replace E := E.ext ex
 have H4 := R4.bs
 refine aU ?_
 refine hret rfl ?_
 exact ⟨A4, k4, c4, rfl, H4, by omega, E⟩
theorem pj (A B C D : Oa) (lb : ByteArray) (n c m d k q z v : Nat) (xs ys cs ts : Lb) (w : World) (hlb : lb.size ≤ 100) (HA : Bs w A n xs) (hn : n ≤ 1000) (HB : Bs w B m ys) (hm : m ≤ 1000) (HC : Bs w C k cs) (hk : k ≤ 6000)
  (HD : Bs w D z ts) (hz : z ≤ 80000) :
  Ct 57 #[.slice A n c, .slice B m d, .string lb, .slice C k q, .slice D z v] w fun e w' => ∃ A1 k1 c1 A2 k2 c2, e = .returned (.tuple #[.slice A1 k1 c1, .slice A2 k2 c2, .int .u8 ((sl xs ys (info lb cs) ts []).2.2 : Int)]) ∧ Bs w' A1 k1 (sl xs ys (info lb cs) ts []).1 ∧
   Bs w' A2 k2 (sl xs ys (info lb cs) ts []).2.1 ∧ k1 ≤ 32 ∧ k2 ≤ z + 16 ∧ k2 ≤ c2 ∧ Gn w.heap.size A1 A2 ∧ Ext w w' := by
 have E := Ext.refl w
 refine jQ 23 func57 rfl rfl rfl rfl ?_
 intro _ hret
 refine aU ?_
 refine aL func91 rfl (qm lb C k q cs _ hlb HC Om) ?_
 rintro e _ ⟨A1, k1, c1, rfl, H1, _, ex⟩
 obtain ⟨HA,HB,HD,E⟩ := bU ex HA HB HD E
 refine aU ?_
 have z6 := E.size
 refine aL func125 rfl (zJ A B A1 D none n c m d k1 c1 z v 0 0 xs ys _ ts [] _ HA hn HB hm H1 Om HD Om (Bs.nil _ _) Om Om) ?_
 rintro e _ ⟨A2, k2, c2, A3, k3, c3, rfl, H2, H3, Vl, Vm, Vn, t6, ex⟩
 replace E := E.ext ex
 refine aU ?_
 refine hret rfl rfl rfl ?_
 exact ⟨A2, k2, c2, A3, k3, c3, rfl, H2, H3, Vl, Vm, Vn, t6.lo z6, E⟩
end
section
section
open Go.RowKit
variable {P : Program} {f : FuncId} {fn : Func} {c : Code} {args : Array Value} {R : Ending → World → Prop} {w : World}
theorem xi {t : TypeId} {d : TypeDesc} (hu : P.underlying t = some d) (hd : (match d with | .struct _ | .array _ _ => false | _ => true) = true) (w : World) : (isAgg t).run P w = .ok false w := by
 unfold isAgg
 rw [Sem.run_bind, run_underlying hu w]
 cases d <;> first | rfl | (simp at hd)
end
section
open Go.RowKit
attribute [local irreducible] Y Ef WL WC WK WQ WM cx WN WF cT WJ gZ WG mR
open Wire Nd M20
section
variable {A0 : Oa} {n0 : Nat} {b0 : Lb} {cs : Array Value} {s : St}
end
end
end
section
open Go.RowKit Tryz
attribute [local irreducible] Y Ef WL WC WK WQ WM cx WN WF cT WJ gZ WG mR
open Wire Nd M20
theorem mL {A B : Oa} {n c m d : Nat} {j y : Lb} (w : World) (HA : Bs w A n j) (HB : Bs w B m y) :
  Ct 97 #[.slice A n c, .slice B m d] w fun e w' => e = .returned (.bool (decide (ky j y))) ∧ Ext w w' := by
 have n1 := HA.1; have n2 := HB.1
 have E := Ext.refl w
 refine aj 18 func97 rfl rfl rfl rfl ?_
 intro _ hret
 refine au 9 ?_
 refine bH (cA rfl rfl) rfl (fun q1 => ?_) (fun q1 => ?_)
 ·refine au 3 ?_
  refine aG 8 rfl rfl (cA rfl rfl) rfl (fun q2 => ?_) (fun q2 => ?_)
  ·refine aU ?_
   refine hret rfl ?_
   exact ⟨bD ⟨by omega, .inl Om⟩, E⟩
  ·refine aU ?_
   refine hret rfl ?_
   exact ⟨dJ ⟨fun h => ⟨by omega, .inr Om⟩, fun h => by have := h.2; omega⟩, E⟩
 ·refine aU ?_
  refine ck 12 rfl rfl rfl ?_
  refine ck 12 rfl rfl rfl ?_
  refine ck 12 rfl rfl rfl ?_
  refine aU ?_
  refine hret rfl ?_
  exact ⟨aP fun h => by have := h.1; omega, E⟩
theorem zq {ga gb : Nat} {ta tb : TypeId} {A B : Oa} {n c m d : Nat} {j y : Lb} (w : World) (Ka : ao w ga ta #[.slice A n c]) (Kb : ao w gb tb #[.slice B m d]) (HA : Bs w A n j) (HB : Bs w B m y) (ok : ky j y) :
  Ct 190 #[.pointer (some ⟨gb, 0, none⟩), .pointer (some ⟨ga, 0, none⟩)] w fun e w' => ∃ A k c, e = .returned (.slice A k c) ∧ (Bs w' A k (gW j y) ∧ k ≤ c) ∧ Ext w w' := by
 have n1 := HA.1; have n2 := HB.1
 have k1 := ok.1; have k2 := ok.2
 have E := Ext.refl w
 have hl := bu n
 refine aj 16 func190 rfl rfl rfl rfl ?_
 intro _ hret
 refine aU ?_
 refine al rfl (fun Vq => ?_) (fun Vq => ?_)
 ·refine aU ?_
  refine aL func87 rfl (cQ none A 0 0 n c [] j _ (Bs.nil _ _) Om (Bs.ext HA E) Om) ?_
  rintro e w2 ⟨A2, Vm, c2, rfl, R2, Vn, ex⟩
  replace E := E.ext ex
  refine aU ?_
  refine af (aB (z := .int .u8 0) Tn.u Kr rfl rfl rfl rfl rfl) rfl ?_
  rintro _ w3 ⟨g3, rfl, B3, Vo, ex⟩
  obtain ⟨E,R2⟩ := aY ex E R2
  refine af (aQ rfl rfl bF R2 (At.fT (vs := [bv 0]) (B3.congr (by rfl))) rfl (by intro u hu; simp only [List.mem_singleton] at hu; subst hu; rfl) Om Om E.size) rfl ?_
  rintro _ w4 ⟨A4, c4, rfl, R4, be, Vl, hgl⟩
  replace E := E.trans be
  refine aU ?_
  refine hret rfl ?_
  exact ⟨A4, _, c4, rfl, ⟨by have h := R4.congr (ys := (gW j y).map bv) rfl (by unfold gW; rw [if_pos Om]; simp); exact h.bs, R4.cap⟩, E⟩
 ·refine aU ?_
  have Ko := Kb; have Vp := Ka
  refine ur [ga, gb] Kr 7 rfl ?_; intro Vs ex Vt
  obtain ⟨E,Ka,Kb⟩ := bC ex E Ka Kb
  refine mO 0 rfl Kr (fun wr (kr : Kept [ga, gb] _ wr) => ah rfl Tn.u rfl ((Ka.Cy kr).get (i := 0) rfl)) rfl ?_
  refine mO 4 rfl Kr (fun wr (kr : Kept [ga, gb] _ wr) => ah rfl Tn.u rfl ((Kb.Cy kr).get (i := 0) rfl)) rfl ?_
  refine BP 1 2 Kr ?_ ?_
  ·skip
   have hzz := E.size
   refine fA rfl func87 rfl rfl rfl (cQ none A 0 0 n c [] j _ (Bs.nil _ _) Om (Bs.ext HA E) Om) rfl ?_
   rintro e w2 ⟨A2, Vm, c2, rfl, R2, Vn, ex⟩
   refine ⟨_, rfl, Kept.ext ex (ku Ka.lt (ku Kb.lt pX)), ?_⟩
   obtain ⟨E,Ka,Kb⟩ := bC ex E Ka Kb
   replace R2 := R2.lower hzz
   refine eN 2 Kr ?_; refine mg rfl (aB (z := .int .u8 0) underlying23 Kr rfl rfl rfl rfl rfl) rfl ?_
   rintro _ w3 ⟨g3, rfl, B3, Vo, ex⟩
   refine ⟨Kept.ext ex (ku Ka.lt (ku Kb.lt pX)), ?_⟩
   obtain ⟨E,Ka,Kb,R2⟩ := bU ex E Ka Kb R2
   refine eN 3 Kr ?_; refine mg rfl (aQ rfl rfl bF R2 (At.fT (vs := [bv 1]) (B3.congr (by rfl))) rfl (by intro u hu; simp only [List.mem_singleton] at hu; subst hu; rfl) Om Om E.size) rfl ?_
   rintro _ w4 ⟨A4, c4, rfl, R4, be, Vl, hgl⟩
   have kp := Kept.own Vl (ku Ka.lt (ku Kb.lt pX)) (ku (R2.qH Vp.lt) (ku (R2.qH Ko.lt) pX))
   refine ⟨kp, ?_⟩
   replace Ka := Ka.Cy kp
   replace Kb := Kb.Cy kp
   replace E := E.trans be
   replace R4 : Row _ _ _ _ _ _ ((vec j ++ [1]).map bv) := R4.congr rfl (by simp)
   refine eN 5 Kr ?_; refine fA rfl func87 rfl rfl rfl (cQ A4 B _ c4 m d _ _ _ R4.bs Om (Bs.ext HB E) Om) rfl ?_
   rintro e w5 ⟨A5, k5, c5, rfl, R5, Vr, ex⟩
   refine ⟨_, rfl, Kept.ext ex (ku Ka.lt (ku Kb.lt pX)), ?_⟩
   replace E := E.ext ex
   refine mO 6 rfl Kr (fun wr (kr : Kept [ga, gb] _ wr) => gC rfl) rfl ?_
   refine oe Kr ?_
   refine aU ?_
   refine hret rfl ?_
   exact ⟨A5, k5, c5, rfl, ⟨by have h := R5.congr (ys := (gW j y).map bv) rfl (by unfold gW; rw [if_neg Om]); exact h.bs, R5.cap⟩, E⟩
  ·skip
   refine mg rfl (aB (z := .int .u8 0) underlying23 Kr rfl rfl rfl rfl rfl) rfl ?_
   rintro _ w3 ⟨g3, rfl, B3, Vo, ex⟩
   refine ⟨Kept.ext ex (ku Ka.lt (ku Kb.lt pX)), ?_⟩
   obtain ⟨E,Ka,Kb⟩ := bC ex E Ka Kb
   have hzz := E.size
   refine eN 1 Kr ?_; refine fA rfl func87 rfl rfl rfl (cQ none A 0 0 n c [] j _ (Bs.nil _ _) Om (Bs.ext HA E) Om) rfl ?_
   rintro e w2 ⟨A2, Vm, c2, rfl, R2, Vn, ex⟩
   refine ⟨_, rfl, Kept.ext ex (ku Ka.lt (ku Kb.lt pX)), ?_⟩
   obtain ⟨E,Ka,Kb,B3⟩ := bU ex E Ka Kb B3
   replace R2 := R2.lower hzz
   refine eN 3 Kr ?_; refine mg rfl (aQ rfl rfl bF R2 (At.fT (vs := [bv 1]) (B3.congr (by rfl))) rfl (by intro u hu; simp only [List.mem_singleton] at hu; subst hu; rfl) Om Om E.size) rfl ?_
   rintro _ w4 ⟨A4, c4, rfl, R4, be, Vl, hgl⟩
   have kp := Kept.own Vl (ku Ka.lt (ku Kb.lt pX)) (ku (R2.qH Vp.lt) (ku (R2.qH Ko.lt) pX))
   refine ⟨kp, ?_⟩
   replace Ka := Ka.Cy kp
   replace Kb := Kb.Cy kp
   replace E := E.trans be
   replace R4 : Row _ _ _ _ _ _ ((vec j ++ [1]).map bv) := R4.congr rfl (by simp)
   refine eN 5 Kr ?_; refine fA rfl func87 rfl rfl rfl (cQ A4 B _ c4 m d _ _ _ R4.bs Om (Bs.ext HB E) Om) rfl ?_
   rintro e w5 ⟨A5, k5, c5, rfl, R5, Vr, ex⟩
   refine ⟨_, rfl, Kept.ext ex (ku Ka.lt (ku Kb.lt pX)), ?_⟩
   replace E := E.ext ex
   refine mO 6 rfl Kr (fun wr (kr : Kept [ga, gb] _ wr) => gC rfl) rfl ?_
   refine oe Kr ?_
   refine aU ?_
   refine hret rfl ?_
   exact ⟨A5, k5, c5, rfl, ⟨by have h := R5.congr (ys := (gW j y).map bv) rfl (by unfold gW; rw [if_neg Om]); exact h.bs, R5.cap⟩, E⟩
theorem mV {A B : Oa} {n c m d : Nat} {j y : Lb} (w : World) (HA : Bs w A n j) (HB : Bs w B m y) :
  Ct 129 #[.slice A n c, .slice B m d] w fun e w' => ∃ A k c z, e = .returned (.tuple #[.slice A k c, .int .u8 ((z : Nat) : Int)]) ∧ Told w' (ky j y) (gW j y) A k z ∧ k ≤ c ∧ Ext w w' := by
 have E := Ext.refl w
 refine bK 13 func129 rfl rfl rfl rfl ?_
 intro _ hret
 refine aU ?_
 intro _ Vl B2 _ ex
 replace E := E.ext ex
 refine aU ?_
 intro _ Vm B3 _ ex
 obtain ⟨E,B2⟩ := aY ex E B2
 refine aU ?_
 refine aL func97 rfl (mL _ (Bs.ext HA E) (Bs.ext HB E)) ?_
 rintro e _ ⟨rfl, ex⟩
 obtain ⟨E,B2,B3⟩ := bC ex E B2 B3
 refine au 1 ?_
 refine ak (jc (xs := [.tmp 3, .tmp 2]) (vs := [.pointer (some ⟨Vm, 0, none⟩), .pointer (some ⟨Vl, 0, none⟩)]) rfl) ?_
 refine aL func83 rfl (lA (us := [.pointer (some ⟨Vm, 0, none⟩), .pointer (some ⟨Vl, 0, none⟩)]) (Ψ := fun w A k c => Bs w A k (gW j y) ∧ k ≤ c) _ func190 rfl rfl (fun hok w1 e1 => zq w1 (B2.ext e1) (B3.ext e1) (Bs.ext HA (E.ext e1)) (Bs.ext HB (E.ext e1)) (of_decide_eq_true hok))) ?_
 rintro e _ ⟨A3, k3, c3, z3, rfl, T3, N3, ex⟩
 replace E := E.ext ex
 refine aU ?_
 refine hret rfl rfl ?_
 exact ⟨A3, k3, c3, z3, rfl, ⟨fun o => ⟨(T3 (decide_eq_true o)).1, (T3 (decide_eq_true o)).2.1⟩, fun o => ⟨(N3 (decide_eq_false o)).1, (N3 (decide_eq_false o)).2.2.1⟩⟩, (by by_cases o : ky j y; exact (T3 (decide_eq_true o)).2.2; have h := N3 (decide_eq_false o); omega), E⟩
theorem lJ {A B : Oa} {n c m d : Nat} {j y : Lb} (w : World) (HA : Bs w A n j) (HB : Bs w B m y) (h1 : n ≤ 1000) (h2 : m ≤ 1000) :
  Ct 58 #[.slice A n c, .slice B m d] w fun e w' => ∃ A' k c', e = .returned (.slice A' k c') ∧ Row w' w.heap.size 5 A' k c' ((gW j y).map bv) ∧ k ≤ 3000 ∧ Ext w w' := by
 have n1 := HA.1; have n2 := HB.1
 have E := Ext.refl w
 have hl := bu n; have Vp := bu m
 refine aj 18 func58 rfl rfl rfl rfl ?_
 intro _ hret
 refine aU ?_
 refine al rfl (fun Vm => ?_) (fun Vm => ?_)
 ·refine aU ?_
  refine aL func82 rfl (dq A n c _ _ (Bs.ext HA E) Om) ?_
  rintro e w2 ⟨A2, k2, c2, rfl, R2, Vn, ex⟩
  refine aU ?_
  replace E := E.ext ex
  have H2 := R2.bs
  refine af (aB (z := .int .u8 0) Tn.u Kr rfl rfl rfl rfl rfl) rfl ?_
  rintro _ w3 ⟨g3, rfl, B3, Vo, ex⟩
  obtain ⟨E,H2⟩ := aY ex E H2
  have H3 := aZ (xs := [(0 : UInt8)]) (B3.congr (by rfl)) rfl
  have Vl := E.size
  refine aL func80 rfl (dh A2 _ _ c2 1 1 _ _ _ H2 Om H3 Om) ?_
  rintro e w4 ⟨A4, c4, rfl, R4, ex⟩
  replace E := E.ext ex
  refine aU ?_
  refine hret rfl ?_
  exact ⟨A4, _, c4, rfl, (R4.lower Vl).congr rfl (by unfold gW; rw [if_pos Om]), by omega, E⟩
 ·refine aU ?_
  refine aL func82 rfl (dq A n c _ _ (Bs.ext HA E) Om) ?_
  rintro e w2 ⟨A2, k2, c2, rfl, R2, Vn, ex⟩
  refine aU ?_
  replace E := E.ext ex
  have H2 := R2.bs
  refine af (aB (z := .int .u8 0) Tn.u Kr rfl rfl rfl rfl rfl) rfl ?_
  rintro _ w3 ⟨g3, rfl, B3, Vo, ex⟩
  obtain ⟨E,H2⟩ := aY ex E H2
  have H3 := aZ (xs := [(1 : UInt8)]) (B3.congr (by rfl)) rfl
  refine aU ?_
  refine aL func82 rfl (dq B m d _ _ (Bs.ext HB E) Om) ?_
  rintro e w4 ⟨A4, _, c4, rfl, R4, _, ex⟩
  refine aU ?_
  obtain ⟨E,H2,H3⟩ := bC ex E H2 H3
  have H4 := R4.bs
  have Vl := E.size
  refine aL func122 rfl (dO A2 _ A4 _ c2 1 1 _ c4 _ _ _ _ H2 Om H3 Om H4 Om) ?_
  rintro e _ ⟨A5, c5, rfl, R5, ex⟩
  replace E := E.ext ex
  refine aU ?_
  refine hret rfl ?_
  exact ⟨A5, _, c5, rfl, (R5.lower Vl).congr rfl (by unfold gW; rw [if_neg Om]), by omega, E⟩
end
end Go.Proofs.YtgfafidlkldeaaaGreat
