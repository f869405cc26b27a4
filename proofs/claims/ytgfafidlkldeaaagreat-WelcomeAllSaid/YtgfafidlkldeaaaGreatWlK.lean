/- What welcome.Make seals for one guest. No conditions: contracts of functions. -/
import Derived.Test.YtgfafidlkldeaaaGreatSecE
import Derived.Test.YtgfafidlkldeaaaGreatAu
import Derived.Test.YtgfafidlkldeaaaGreatGmF
import Derived.Test.YtgfafidlkldeaaaGreatMsW
import Derived.Test.YtgfafidlkldeaaaGreatNt
import Derived.Test.YtgfafidlkldeaaaGreatAeD
set_option linter.unusedVariables false
set_option linter.unusedSimpArgs false
set_option maxHeartbeats 4000000
set_option maxRecDepth 4000
namespace Go.Proofs.YtgfafidlkldeaaaGreat
variable {args cs ds ss : Array Value} {j key ms nn seed y : Lb} {s ts : List (List UInt8)} {S : List Nat} {a b base c e g2 g3 g5 ga gb k m n : Nat} {A C D G I : Oa} {t ta tb : TypeId} {w w' : aa9} {x : nJ}
section
open Go.RowKit Tryz
attribute [local irreducible] Y Ef WL WC WK WQ WM cu WN WF db
open Hk
theorem L8 {a a' : Oa} {g b' c' : Nat} {xs : Lb} (H : Bs w A n xs) (B : aq w g t #[.slice a b c, .slice a' b' c']) (hn : 0 < n) (o : Nat) : A ≠ some ⟨g, o, none⟩ := by
 rintro rfl;obtain ⟨b1, off, e, _, hc⟩ := H.get (k := 0) hn;injection e with e
 injection e with e1 e2 _
 subst e1; subst e2;rw [B.cell] at hc;rcases o with _ | _ | o
 ·simp at hc
 ·simp at hc
 simp at hc
theorem zo (is : Lb) : [[0], Hk.ext CV [] VD [], Hk.ext CV [] inf is].flatten = ctx is := by simp [ctx]
theorem uq (is : Lb) : (ctx is).length = 65 := by unfold ctx; simp [fV]
theorem wi (A B : Oa) (n c m d : Nat) (xs is : Lb) (w : aa9) (HA : Bs w A n xs) (hn : n ≤ 1000) (HB : Bs w B m is) (hm : m ≤ 8000) :
  Ct 166 #[.slice A n c, .slice B m d] w fun e w' => ∃ A1 c1 A2 c2, e = .returned (.agg #[.slice A1 16 c1, .slice A2 12 c2]) ∧ Bs w' A1 16 (zW xs is) ∧ Bs w' A2 12 (yT xs is) ∧ 16 ≤ c1 ∧ 12 ≤ c2 ∧ Ext w w' := by
 have F := aI.refl [] w;have KA : Kp w.heap.size [] (fun w => Bs w A n xs) w := Kp.bs HA (by simp);have KB : Kp w.heap.size [] (fun w => Bs w B m is) w := Kp.bs HB (by simp);refine aH (s := 2) 22 func166 rfl rfl rfl underlying209 rfl Kr rfl ?_;intro _ aa4;refine aU ?_;intro _ YV B4 YU ex;have YY := B4.lt;replace F := F.grow ex YU;replace KA := KA.grow ex YU;replace KB := KB.grow ex YU;refine aU ?_;refine af (aF (z := .int .u8 0) Tn.u Kr rfl rfl rfl rfl rfl) rfl ?_;rintro _ _ ⟨_, rfl, D1, _, ex⟩;obtain ⟨F,KA,KB,B4⟩ := bG ex F KA KB B4;have H1 := aX (xs := [0]) (D1.congr rfl) rfl;refine aB func137 rfl (gp CV VD none none 0 0 0 0 [] [] _ (Bs.nil _ _) Om (Bs.nil _ _) Om (by decide) (by decide)) ?_;rintro e _ ⟨A2, c2, rfl, H2, ex⟩;obtain ⟨F,KA,KB,B4,H1⟩ := fR ex F KA KB B4 H1;refine aU ?_;refine aB func137 rfl (gp CV inf none B 0 0 m d [] is _ (Bs.nil _ _) Om KB.out Om (by decide) (by decide)) ?_;rintro e _ ⟨_, _, rfl, H3, ex⟩;obtain ⟨F,KA,B4,H1,H2⟩ := fR ex F KA B4 H1 H2;refine aU ?_;refine af (aF (z := .slice none 0 0) Tn.u Kr rfl rfl rfl rfl rfl) rfl ?_;rintro _ _ ⟨_, rfl, D4, _, ex⟩;obtain ⟨F,KA,B4,H1,H2,H3⟩ := iz ex F KA B4 H1 H2 H3;have S4 := km D4 H1 H2 H3;refine aB func184 rfl (rF _ 3 3 [[0], Hk.ext CV [] VD [], Hk.ext CV [] inf is] _ S4 Om (by rw [zo, uq]; omega)) ?_;rintro e _ ⟨A5, k5, c5, rfl, R5, ex⟩;obtain ⟨F,KA,B4⟩ := bh ex F KA B4;have H5 := R5.bs; rw [zo] at H5; obtain rfl : k5 = 65 := by rw [← H5.1, uq]
 refine aU ?_;refine aB func137 rfl (gp CV sec A none n c 0 0 xs [] _ KA.out Om (Bs.nil _ _) Om (by decide) (by decide)) ?_;rintro e _ ⟨A6, c6, rfl, H6, ex⟩;obtain ⟨F,B4,H5⟩ := bh ex F B4 H5;refine aU ?_;refine aB func136 rfl (jP CV SF A6 A5 32 c6 65 c5 16 _ (ctx is) _ H6 Om H5 Om (by decide) (by decide) Om) ?_;rintro e _ ⟨A7, c7, rfl, ⟨H7, _⟩, YW, ex⟩;obtain ⟨F,B4,H5,H6⟩ := bG ex F B4 H5 H6;refine aU ?_;refine aB func136 rfl (jP CV SY A6 A5 32 c6 65 c5 12 _ (ctx is) _ H6 Om H5 Om (by decide) (by decide) Om) ?_;rintro e _ ⟨A8, c8, rfl, ⟨H8, _⟩, YX, ex⟩;obtain ⟨F,B4,H7⟩ := bh ex F B4 H7;refine au 1 ?_;refine ak (aA rfl (cells := #[.slice A7 16 c7, .slice A8 12 c8]) Kr) ?_;replace B4 := B4.congr (cs' := #[.slice none 0 0, .slice none 0 0]) rfl;have K7 := Kp.bs (S := [YV]) H7 (fun h g hg o => by simp at hg; subst hg; exact L8 H7 B4 h o);have K8 := Kp.bs (S := [YV]) H8 (fun h g hg o => by simp at hg; subst hg; exact L8 H8 B4 h o);refine aU ?_;intro _ D cg;have ex := aI.one cg;clear cg;obtain ⟨F,K7,K8⟩ := DC ex F K7 K8;replace B4 := D; clear D;replace B4 := B4.congr (cs' := #[.slice A7 16 c7, .slice A8 12 c8]) rfl;refine aU ?_;exact aa4 rfl B4 rfl ⟨A7, c7, A8, c8, rfl, K7.out, K8.out, YW, YX, F.drop Om |>.bF (by simp)⟩
theorem CK (A B : Oa) (c d : Nat) (w : aa9) : Ct 103 #[.slice A 16 c, .slice B 12 d] w (ck w (.bool true)) := by refine ai 13 func103 ?_;intro _ aa4;refine aU ?_;exact aa4 rfl ⟨rfl, Ext.refl _⟩
theorem y7 (A B C D : Oa) (c d k e m f : Nat) (w : aa9) (hk : k < 16) : Ct 42 #[.slice A 16 c, .slice B 12 d, .slice C k e, .slice D m f] w (ck w (.tuple #[.slice none 0 0, .bool false])) := by have E := Ext.refl w;refine aZ 57 func42 ?_;intro _ aa4;refine aU ?_;refine aB func103 rfl (CK A B c d _) ?_;rintro e _ ⟨rfl, ex⟩;replace E := E.ext ex;refine aU ?_;exact aa4 rfl rfl ⟨rfl, E⟩
/-! The chapter's example: the secret of the pair of the seed 1 with itself is one. -/
theorem eZ (A B : Oa) (n c m d : Nat) (xs ys : Lb) (w : aa9) (HA : Bs w A n xs) (hn : n ≤ 1000000) (HB : Bs w B m ys) (hm : m ≤ 1000000) :
  Ct 74 #[.slice A n c, .slice B m d] w fun e w' => ∃ A' k c', e = .returned (.slice A' k c') ∧ Row w' w.heap.size 5 A' k c' ((xs ++ ys).map bv) ∧ k = n + m ∧ Ext w w' := by
 have E := Ext.refl w;refine ai 10 func74 ?_;intro _ aa4;have YU := HB;refine aU ?_;refine af (aF (z := .int .u8 0) Tn.u Kr rfl rfl rfl rfl rfl) rfl ?_;rintro _ w1 ⟨g1, rfl, D1, YV, ex⟩;obtain ⟨HA,E⟩ := aS ex HA E;have R1 : Row w1 w.heap.size 5 (cf g1) 0 0 [] := Row.new D1 YV rfl (by unfold maxLen; omega);refine aU ?_;refine af (aT rfl rfl bV R1 HA.2 (by rw [List.length_map, HA.1]) aJ Om Om E.size) rfl ?_;rintro _ _ ⟨_, _, rfl, R2, be, gr, hl⟩;have E2 := E.trans be;refine aU ?_;refine af (aT rfl rfl bV R2 (YU.wk E2).2 (by rw [List.length_map, YU.1]) aJ Om Om E2.size) rfl ?_;rintro _ _ ⟨A3, c3, rfl, R3, be, gr, hl⟩;have E3 := E2.trans be; rw [List.nil_append, ← List.map_append] at R3;refine aU ?_;exact aa4 rfl ⟨A3, _, c3, rfl, R3, Om, E3⟩
theorem Up (nm : Lb) (lb : ByteArray) (xs ys : Lb) : Mac.tag xs (([72, 80, 75, 69, 45, 118, 49] ++ nm) ++ (lb.data.toList ++ ys)) = Hk.ext (iU nm) xs lb ys := by unfold Hk.ext; congr 1;simp only [kq, sC, show cat [] = [] from rfl, List.append_nil, List.append_assoc]; rfl
theorem SE (nm : Lb) (lb : ByteArray) (xs ys : Lb) (k : Nat) : Kdf.expand xs (((Wire.be 2 k ++ [72, 80, 75, 69, 45, 118, 49]) ++ nm) ++ (lb.data.toList ++ ys)) k = Hk.exp (iU nm) xs lb ys k := by unfold Hk.exp; congr 1;simp only [kq, sC, show cat [] = [] from rfl, List.append_nil, List.append_assoc]; rfl
theorem lE (N A B : Oa) (p q n c m d : Nat) (nm xs ys : Lb) (lb : ByteArray) (w : aa9) (HN : Bs w N p nm) (hp : p ≤ 100) (HA : Bs w A n xs) (hn : n ≤ 100000) (HB : Bs w B m ys) (hm : m ≤ 10000) (h2 : lb.size ≤ 100) :
  Ct 75 #[.slice N p q, .slice A n c, .string lb, .slice B m d] w fun e w' => ∃ A' c', e = .returned (.slice A' 32 c') ∧ Bs w' A' 32 (Hk.ext (iU nm) xs lb ys) ∧ Ext w w' := by
 have E := Ext.refl w;refine ai 20 func75 ?_;intro _ aa4;refine aU ?_;refine af (Ez (z := .int .u8 0) Tn.u Kr rfl rfl rfl rfl rfl) rfl ?_;rintro _ _ ⟨rfl, rfl⟩;refine af (EY rfl Tn.u Tn.u) rfl ?_;rintro _ w1 ⟨rfl, YU⟩;have ex := show Ext w w1 from by rw [YU]; exact Ext.alloc _ _
 obtain ⟨HN,HA,HB,E⟩ := bG ex HN HA HB E;have S1 : Bs w1 (some ⟨w.heap.size, 0, none⟩) 7 [72, 80, 75, 69, 45, 118, 49] := by rw [YU]; exact vq (cs := [.int .u8 72, .int .u8 80, .int .u8 75, .int .u8 69, .int .u8 45, .int .u8 118, .int .u8 49]) rfl
 clear YU ;refine aU ?_;refine aB func74 rfl (eZ _ N 7 7 p q _ nm _ S1 Om HN Om) ?_;rintro e _ ⟨A2, k2, c2, rfl, R2, _, ex⟩;obtain ⟨HA,HB,E⟩ := bh ex HA HB E;have H2 := R2.bs;refine aU ?_;refine af (oJ rfl Tn.u Tn.u Tn.u) rfl ?_;rintro _ _ ⟨_, c3, rfl, H3, _, ex⟩;obtain ⟨HA,HB,E,H2⟩ := bG ex HA HB E H2;refine aU ?_;refine aB func74 rfl (eZ _ B lb.size c3 m d _ ys _ H3 Om HB Om) ?_;rintro e _ ⟨A4, k4, c4, rfl, R4, _, ex⟩;refine aU ?_;obtain ⟨HA,E,H2⟩ := bh ex HA E H2;have H4 := R4.bs;refine aB func74 rfl (eZ A2 A4 k2 c2 k4 c4 _ _ _ H2 Om H4 Om) ?_;rintro e _ ⟨A5, k5, c5, rfl, R5, _, ex⟩;refine aU ?_;obtain ⟨HA,E⟩ := aS ex HA E;have H5 := R5.bs;refine aB func18 rfl (kJ A A5 n c k5 c5 xs _ _ HA Om H5 Om) ?_;rintro e _ ⟨A6, c6, rfl, R6, ex⟩;replace E := E.ext ex;have H6 := R6.bs; rw [Up] at H6;refine aU ?_;exact aa4 rfl ⟨A6, c6, rfl, H6, E⟩
theorem rM (N A B : Oa) (p q n c m d k : Nat) (nm xs ys : Lb) (lb : ByteArray) (w : aa9) (HN : Bs w N p nm) (hp : p ≤ 100) (HA : Bs w A n xs) (hn : n ≤ 100000) (HB : Bs w B m ys) (hm : m ≤ 10000) (h2 : lb.size ≤ 100) (hk : k ≤ 8160) :
  Ct 77 #[.slice N p q, .slice A n c, .string lb, .slice B m d, .int .i64 (k : Int)] w fun e w' => ∃ A' c', e = .returned (.slice A' k c') ∧ Bs w' A' k (Hk.exp (iU nm) xs lb ys k) ∧ Ext w w' := by
 have E := Ext.refl w;refine ai 29 func77 ?_;intro _ aa4;refine aU ?_;refine aB func56 rfl (kY 2 k _ Om Om) ?_;rintro e w1 ⟨A1, c1, rfl, R1, ex⟩;refine aU ?_;obtain ⟨HN,HA,HB,E⟩ := bG ex HN HA HB E;have H1 := R1.bs;refine af (Ez (z := .int .u8 0) Tn.u Kr rfl rfl rfl rfl rfl) rfl ?_;rintro _ _ ⟨rfl, rfl⟩;refine af (EY rfl Tn.u Tn.u) rfl ?_;rintro _ w2 ⟨rfl, YU⟩;have ex := show Ext w1 w2 from by rw [YU]; exact Ext.alloc _ _
 obtain ⟨HN,HA,HB,E,H1⟩ := fR ex HN HA HB E H1;have S2 : Bs w2 (some ⟨w1.heap.size, 0, none⟩) 7 [72, 80, 75, 69, 45, 118, 49] := by rw [YU]; exact vq (cs := [.int .u8 72, .int .u8 80, .int .u8 75, .int .u8 69, .int .u8 45, .int .u8 118, .int .u8 49]) rfl
 clear YU ;refine aB func74 rfl (eZ A1 _ 2 c1 7 7 _ _ _ H1 Om S2 Om) ?_;rintro e _ ⟨A3, k3, c3, rfl, R3, _, ex⟩;obtain ⟨HN,HA,HB,E⟩ := bG ex HN HA HB E;have H3 := R3.bs;refine aU ?_;refine aB func74 rfl (eZ A3 N k3 c3 p q _ nm _ H3 Om HN Om) ?_;rintro e _ ⟨A4, k4, c4, rfl, R4, _, ex⟩;obtain ⟨HA,HB,E⟩ := bh ex HA HB E;have H4 := R4.bs;refine aU ?_;refine af (oJ rfl Tn.u Tn.u Tn.u) rfl ?_;rintro _ _ ⟨_, c5, rfl, H5, _, ex⟩;obtain ⟨HA,HB,E,H4⟩ := bG ex HA HB E H4;refine aU ?_;refine aB func74 rfl (eZ _ B lb.size c5 m d _ ys _ H5 Om HB Om) ?_;rintro e _ ⟨A6, k6, c6, rfl, R6, _, ex⟩;refine aU ?_;obtain ⟨HA,E,H4⟩ := bh ex HA E H4;have H6 := R6.bs;refine aB func74 rfl (eZ A4 A6 k4 c4 k6 c6 _ _ _ H4 Om H6 Om) ?_;rintro e _ ⟨A7, k7, c7, rfl, R7, _, ex⟩;obtain ⟨HA,E⟩ := aS ex HA E;have H7 := R7.bs;refine aU ?_;refine aB func116 rfl (nZ A A7 n c k7 c7 k xs _ _ HA Om H7 Om hk) ?_;rintro e _ ⟨A8, c8, rfl, H8, ex⟩;replace E := E.ext ex;rw [SE] at H8;refine aU ?_;exact aa4 rfl ⟨A8, c8, rfl, H8, E⟩
namespace Hk
def N1 : List UInt8 := [77, 76, 83, 32, 49, 46, 48, 32]
def info (lb : ByteArray) (cs : Lb) : List UInt8 := Wire.vec (N1 ++ sb lb) ++ Wire.vec cs
end Hk
theorem jJ (w : aa9) : Ct 76 #[] w fun e w' => ∃ g, e = .returned (.slice (cf g) 10 10) ∧ Bs w' (cf g) 10 [72, 80, 75, 69, 0, 32, 0, 1, 0, 1] ∧ Ext w w' := by have E := Ext.refl w;refine ai 2 func76 ?_;intro _ aa4;refine aU ?_;refine af (aF (z := .int .u8 0) Tn.u Kr rfl rfl rfl rfl rfl) rfl ?_;rintro _ _ ⟨g1, rfl, D1, _, ex⟩;replace E := E.ext ex;have H1 := aX (xs := [72, 80, 75, 69, 0, 32, 0, 1, 0, 1]) (D1.congr rfl) rfl;refine aU ?_;exact aa4 rfl ⟨g1, rfl, H1, E⟩
theorem Lx (A B : Oa) (n c m d : Nat) (xs is : Lb) (w : aa9) (HA : Bs w A n xs) (hn : n ≤ 1000) (HB : Bs w B m is) (hm : m ≤ 1000) :
  Ct 30 #[.slice A n c, .slice B m d] w fun e w' => ∃ A1 c1 A2 c2, e = .returned (.tuple #[.slice A1 16 c1, .slice A2 12 c2]) ∧ Bs w' A1 16 (zW xs is) ∧ Bs w' A2 12 (yT xs is) ∧ Ext w w' := by
 have E := Ext.refl w;refine aZ 27 func30 ?_;intro _ aa4;refine aU ?_;refine af (aF (z := .int .u8 0) Tn.u Kr rfl rfl rfl rfl rfl) rfl ?_;rintro _ _ ⟨_, rfl, D1, _, ex⟩;obtain ⟨HA,HB,E⟩ := bh ex HA HB E;have H1 := aX (xs := [0]) (D1.congr rfl) rfl;refine aB func76 rfl (jJ _) ?_;rintro e _ ⟨_, rfl, H2, ex⟩;obtain ⟨HA,HB,E,H1⟩ := bG ex HA HB E H1;refine aU ?_;refine aB func75 rfl (lE _ none none 10 10 0 0 0 0 _ [] [] VD _ H2 Om (Bs.nil _ _) Om (Bs.nil _ _) Om (by decide)) ?_;rintro e _ ⟨A3, c3, rfl, H3, ex⟩;obtain ⟨HA,HB,E,H1⟩ := bG ex HA HB E H1;refine aU ?_;refine aB func76 rfl (jJ _) ?_;rintro e _ ⟨_, rfl, H4, ex⟩;obtain ⟨HA,HB,E,H1,H3⟩ := fR ex HA HB E H1 H3;refine aU ?_;refine aB func75 rfl (lE _ none B 10 10 0 0 m d _ [] is inf _ H4 Om (Bs.nil _ _) Om HB Om (by decide)) ?_;rintro e _ ⟨A5, c5, rfl, H5, ex⟩;obtain ⟨HA,E,H1,H3⟩ := bG ex HA E H1 H3;refine aU ?_;refine aB func74 rfl (eZ A3 A5 32 c3 32 c5 _ _ _ H3 Om H5 Om) ?_;rintro e _ ⟨A6, k6, c6, rfl, R6, _, ex⟩;refine aU ?_;obtain ⟨HA,E,H1⟩ := bh ex HA E H1;have H6 := R6.bs;refine aB func74 rfl (eZ _ A6 1 1 k6 c6 _ _ _ H1 Om H6 Om) ?_;rintro e w7 ⟨A7, k7, c7, rfl, R7, _, ex⟩;obtain ⟨HA,E⟩ := aS ex HA E
 have H7 := R7.bs; rw [List.singleton_append] at H7; replace H7 : Bs w7 A7 k7 (ctx is) := (by unfold ctx; exact H7)
 refine aU ?_;refine aB func76 rfl (jJ _) ?_;rintro e _ ⟨_, rfl, H8, ex⟩;obtain ⟨HA,E,H7⟩ := bh ex HA E H7;refine aU ?_;refine aB func75 rfl (lE _ A none 10 10 n c 0 0 _ xs [] sec _ H8 Om HA Om (Bs.nil _ _) Om (by decide)) ?_;rintro e _ ⟨A9, c9, rfl, H9, ex⟩;obtain ⟨E,H7⟩ := aS ex E H7;refine aU ?_;refine aB func76 rfl (jJ _) ?_;rintro e _ ⟨_, rfl, YV, ex⟩;obtain ⟨E,H7,H9⟩ := bh ex E H7 H9;refine aU ?_;refine aB func77 rfl (rM _ A9 A7 10 10 32 c9 k7 c7 16 _ _ _ SF _ YV Om H9 Om H7 Om (by decide) Om) ?_;rintro e _ ⟨YW, c11, rfl, YU, ex⟩;obtain ⟨E,H7,H9⟩ := bh ex E H7 H9;refine aU ?_;refine aB func76 rfl (jJ _) ?_;rintro e _ ⟨_, rfl, YX, ex⟩;obtain ⟨E,H7,H9,YU⟩ := bG ex E H7 H9 YU;refine aU ?_;refine aB func77 rfl (rM _ A9 A7 10 10 32 c9 k7 c7 12 _ _ _ SY _ YX Om H9 Om H7 Om (by decide) Om) ?_;rintro e _ ⟨YY, YZ, rfl, Y0, ex⟩;obtain ⟨E,YU⟩ := aS ex E YU;refine aU ?_;exact aa4 rfl rfl ⟨YW, c11, YY, YZ, rfl, YU, Y0, E⟩
end
section
open Go.RowKit Tryz
attribute [local irreducible] Y Ef WL WC WK WQ WM cu WN WF db WJ iC WR rQ
open Ae Gm
namespace Gm
def gO (key nn ts ms : Lb) : List UInt8 := FO key nn ts ++ tag key nn (FO key nn ts) ms
def Ca (key nn bx ms : Lb) : Option (List UInt8) :=
 if bx.length < 16 then none else if tag key nn (bx.take (bx.length - 16)) ms = bx.drop (bx.length - 16) then some (FO key nn (bx.take (bx.length - 16))) else none
theorem mP (key nn ts ms : Lb) : (gO key nn ts ms).length = ts.length + 16 := by unfold gO; rw [List.length_append, eU, du]
theorem yv (key nn ts ms : Lb) : Ca key nn (gO key nn ts ms) ms = some ts := by
 unfold Ca;rw [mP, if_neg Om, Nat.add_sub_cancel]
 have h1 : (gO key nn ts ms).take ts.length = FO key nn ts := by unfold gO; rw [← eU key nn ts, List.take_left]
 have h2 : (gO key nn ts ms).drop ts.length = tag key nn (FO key nn ts) ms := by unfold gO; rw [← eU key nn ts, List.drop_left]
 rw [h1, h2, if_pos rfl, QF]
def Tk (a b : Lb) : Nat → Nat
 | 0 => 0
 | i + 1 => Tk a b i ||| (cell a i ^^^ cell b i)
theorem NG (a b : Lb) : ∀ i, Tk a b i < 256
 | 0 => by rw [Tk]; omega
 | i + 1 => Nat.or_lt_two_pow (n := 8) (NG a b i) (x8 (c8 _ _) (c8 _ _))
theorem BJ (h : a ^^^ b = 0) : a = b := by
 have : a ^^^ b ^^^ b = 0 ^^^ b := by rw [h]
 rwa [Nat.xor_assoc, Nat.xor_self, Nat.xor_zero, Nat.zero_xor] at this
theorem zD (a b : Lb) : ∀ i, Tk a b i = 0 ↔ ∀ k, k < i → cell a k = cell b k
  | 0 => ⟨fun _ k h => Om, fun _ => rfl⟩
  | i + 1 => by
    rw [Tk, Nat.or_eq_zero_iff, zD a b i];constructor
    · rintro ⟨h1, h2⟩ k hk
      rcases Nat.lt_or_ge k i with h | h
      · exact h1 k h
      obtain rfl : k = i := Om
      exact BJ h2
    intro h;exact ⟨fun k hk => h k Om, by rw [h i Om, Nat.xor_self]⟩
theorem Mf {a b : Lb} (ha : a.length = 16) (hb : b.length = 16) : Tk a b 16 = 0 ↔ a = b := by rw [zD];exact ⟨fun h => Be Om fun k hk => h k Om, fun h k _ => by rw [h]⟩
end Gm
theorem wE {B : Oa} {d f : Nat} {ts : Lb} (w : aa9) (HA : Bs w A 16 key) (HB : Bs w B 12 nn) (HC : Bs w C n ts) (hn : n ≤ 90000) (HG : Bs w G m ms) (hm : m ≤ 90000) (hmf : m ≤ f) :
  Ct 55 #[.slice A 16 c, .slice B 12 d, .slice C n e, .slice G m f] w fun e w' => ∃ A' c', e = .returned (.tuple #[.slice A' (n + 16) c', .bool true]) ∧ Row w' w.heap.size 5 A' (n + 16) c' ((gO key nn ts ms).map bv) ∧ Ext w w' := by
 have E := Ext.refl w;refine aZ 26 func55 ?_;intro _ aa4;refine aU ?_;refine aB func103 rfl (CK A B c d _) ?_;rintro e _ ⟨rfl, ex⟩;replace E := E.ext ex;refine au 4 ?_;refine bm rfl rfl ?_;refine aU ?_;have YU := E.size;refine aB func105 rfl (rU _ (HA.wk E) (HB.wk E) (HC.wk E) Om) ?_;rintro e _ ⟨_, _, rfl, R2, ex⟩;replace E := E.ext ex;replace R2 := R2.lower YU;refine aU ?_;refine aB func104 rfl (zp _ (HA.wk E) (HB.wk E) R2.bs Om R2.cap (HG.wk E) Om hmf) ?_;rintro e _ ⟨_, _, rfl, R3, ex⟩;refine aU ?_;obtain ⟨E,R2⟩ := aS ex E R2;have H3 := R3.bs; have YV := E.size;refine af (aT rfl rfl bV R2 H3.2 (by rw [List.length_map, H3.1]) aJ Om Om YV) rfl ?_;rintro _ _ ⟨A4, c4, rfl, R4, be, _, _⟩;have E4 := E.trans be;refine aU ?_;exact aa4 rfl rfl ⟨A4, c4, rfl, by unfold gO; rw [List.map_append]; exact R4, E4⟩
theorem vy {B : Oa} {d f : Nat} {bx : Lb} (w : aa9) (HA : Bs w A 16 key) (HB : Bs w B 12 nn) (HC : Bs w C k bx) (hk : k ≤ 90000) (hke : k ≤ e) (HG : Bs w G m ms) (hm : m ≤ 90000) (hmf : m ≤ f) :
  Ct 42 #[.slice A 16 c, .slice B 12 d, .slice C k e, .slice G m f] w fun e w' => ∃ A' j c', e = .returned (.tuple #[.slice A' j c', .bool (Ca key nn bx ms).isSome]) ∧ Row w' w.heap.size 5 A' j c' (((Ca key nn bx ms).getD []).map bv) ∧ Ext w w' := by
 have E := Ext.refl w;have hbl := HC.1;by_cases hs : k < 16
 ·have e1 : Ca key nn bx ms = none := by unfold Ca; rw [if_pos Om]
  rw [e1];refine (y7 A B C G c d k e m f w hs).mono ?_;rintro e w' ⟨rfl, ex⟩;exact ⟨none, 0, 0, rfl, Row.empty _ _ _, ex⟩
 obtain ⟨n, rfl⟩ : ∃ n, k = n + 16 := ⟨k - 16, Om⟩
 obtain ⟨gc, oc, rfl, _, _⟩ := HC.get (k := 0) Om;have HT : Bs w (some ⟨gc, oc, none⟩) n (bx.take n) := HC.take Om
 have hopn : Ca key nn bx ms = if tag key nn (bx.take n) ms = bx.drop n then some (FO key nn (bx.take n)) else none := by unfold Ca; rw [hbl, if_neg Om, Nat.add_sub_cancel]
 have hdl : (bx.drop n).length = 16 := by rw [List.length_drop]; omega
 obtain ⟨T, hT⟩ : ∃ T, T = tag key nn (bx.take n) ms := ⟨_, rfl⟩
 rw [← hT] at hopn;have hTl : T.length = 16 := by rw [hT]; exact du _ _ _ _
 refine aZ 57 func42 ?_;intro _ aa4;refine au 10 ?_;refine ak (fG rfl rfl (show _ = ((n : Nat) : Int) from (bj Om Om).trans Om)) ?_;refine aU ?_;refine aB func103 rfl (CK A B c d _) ?_;rintro e _ ⟨rfl, ex⟩;replace E := E.ext ex;refine au 23 ?_;refine ak (j8 (s := 1) rfl rfl Tn.u Kr (j := n) rfl Om) ?_;refine aU ?_;refine aB func104 rfl (zp _ (HA.wk E) (HB.wk E) (HT.wk E) Om Om (HG.wk E) Om hmf) ?_;rintro e _ ⟨_, c3, rfl, R3, ex⟩;refine au 1 ?_;replace E := E.ext ex;rw [← hT] at R3; have H3 := R3.bs; obtain ⟨g3, _, rfl, _⟩ := R3.get (i := 0) Om;refine aU ?_;refine aE (fun n' L wr => ∃ i : Nat, L = [(0, .slice A 16 c), (1, .slice B 12 d), (2, .slice (some ⟨gc, oc, none⟩) (n + 16) e), (10, .int .i64 (n : Int)), (11, .int .u8 ((Tk T (bx.drop n) i : Nat) : Int)), (31, .slice (cf g3) 16 c3), (32, .int .i64 16), (33, .int .i64 (i : Int))] ∧ n' = 16 - i ∧ (i ≤ 16 ∧ Ext w wr ∧ Bs wr (cf g3) 16 T)) _ _ ⟨0, rfl, rfl, Nat.zero_le _, E, H3⟩ Ls ?_;rintro _ n' L wr ⟨i, rfl, rfl, _, E, H3⟩ YU;refine aa1 (fun YV => ?_) (fun YV => ?_)
 ·refine au 7 ?_;refine ak (aC rfl rfl Tn.u Kr (j := i) Om Om) ?_;refine ak (ah rfl Tn.u rfl (lU H3 (k := i) Om)) ?_;refine au 11 ?_;refine ak (aC rfl rfl Tn.u Kr (j := n + i) Om Om) ?_;refine ak (ah rfl Tn.u rfl (show _ = some (.int .u8 ((cell (bx.drop n) i : Nat) : Int)) from by rw [← Nat.add_assoc]; exact NA ((HC.wk E).xM n) (k := i) Om)) ?_;refine ak (bO rfl rfl ((bJ (Ae.c8 _ _) (Ae.c8 _ _)).2.2)) ?_;refine ak (jZ rfl rfl ((bJ (NG _ _ _) (x8 (Ae.c8 _ _) (Ae.c8 _ _))).2.1)) ?_;refine au 8 ?_;refine ae ?_;refine YU _ _ ⟨i + 1, rfl, rfl, Om, E, H3⟩ Om Ls
 obtain rfl : i = 16 := Om
 refine aa1 (fun YW => ?_) (fun YW => ?_)
 ·refine aU ?_;refine aa4 rfl rfl ?_;have hne : ¬ T = bx.drop n := fun h => by have := (Mf hTl hdl).2 h; omega
  rw [hopn, if_neg hne];exact ⟨none, 0, 0, rfl, Row.empty _ _ _, E⟩
 refine au 8 ?_;refine ak (j8 (s := 1) rfl rfl Tn.u Kr (j := n) rfl Om) ?_;have hz := E.size;refine aB func105 rfl (rU _ (HA.wk E) (HB.wk E) (HT.wk E) Om) ?_;rintro e _ ⟨A5, c5, rfl, R5, ex⟩;replace E := E.ext ex;refine aU ?_;refine aa4 rfl rfl ?_;have heq : T = bx.drop n := (Mf hTl hdl).1 Om;rw [hopn, if_pos heq];exact ⟨A5, n, c5, rfl, R5.lower hz, E⟩
end
section
open Go.RowKit Tryz
attribute [local irreducible] Y Ef WL WC WK WQ WM cu WN WF db WJ iC WR rQ
open Ae Gm Hk
namespace Hk
def sl (pb sd is ts ms : Lb) : List UInt8 × List UInt8 × Nat :=
 if (yt pb sd).2.2 ≠ 0 then ([], [], (yt pb sd).2.2) else ((yt pb sd).2.1, gO (zW (yt pb sd).1 is) (yT (yt pb sd).1 is) ts ms, 0)
def ob (o : Option (List UInt8)) : List UInt8 × Nat := (o.getD [], if o.isSome then 0 else 11)
def op (pv en is bx ms : Lb) : List UInt8 × Nat :=
 if (yq pv en).2 ≠ 0 then ([], (yq pv en).2) else ob (Ca (zW (yq pv en).1 is) (yT (yq pv en).1 is) bx ms)
end Hk
theorem UP (xs ys : Lb) : (yt xs ys).2.2 < 256 := by
 unfold yt; split
 ·exact zM _ _
 show 0 < 256; omega
theorem JG (xs ys : Lb) : (yq xs ys).2 < 256 := by
 unfold yq; split
 ·exact zM _ _
 show 0 < 256; omega
def Rk (base : Nat) (w : aa9) (A B : Oa) : Prop := Nw base w A ∧ Nw base w B
theorem Rk.nil (base : Nat) (w : aa9) : Rk base w none none := ⟨fun _ _ e => (by cases e), fun _ _ e => (by cases e)⟩
theorem Rk.lo {B : Oa} (h : Rk base w A B) (hk : k ≤ base) : Rk k w A B := ⟨h.1.lo hk, h.2.lo hk⟩
theorem Jh (A B C D M : Oa) (n c m d k q z v i j : Nat) (xs ys is ts ms : Lb) (w : aa9) (HA : Bs w A n xs) (hn : n ≤ 1000) (HB : Bs w B m ys) (hm : m ≤ 1000) (HC : Bs w C k is) (hk : k ≤ 8000)
  (HD : Bs w D z ts) (hz : z ≤ 80000) (HM : Bs w M i ms) (hi : i ≤ 80000) (hij : i ≤ j) :
  Ct 125 #[.slice A n c, .slice B m d, .slice C k q, .slice D z v, .slice M i j] w fun e w' => ∃ A1 k1 c1 A2 k2 c2, e = .returned (.tuple #[.slice A1 k1 c1, .slice A2 k2 c2, .int .u8 ((sl xs ys is ts ms).2.2 : Int)]) ∧ Bs w' A1 k1 (sl xs ys is ts ms).1 ∧
   Bs w' A2 k2 (sl xs ys is ts ms).2.1 ∧ k1 ≤ 32 ∧ k2 ≤ z + 16 ∧ k2 ≤ c2 ∧ Rk w.heap.size w' A1 A2 ∧ Ext w w' := by
 have E := Ext.refl w;refine ny 40 func125 ?_;intro _ aa4;refine aU ?_;have z1 := E.size;refine aB func189 rfl (IP A B n c m d xs ys _ HA hn HB hm) ?_;rintro e _ ⟨A1, k1, c1, A2, k2, c2, rfl, H1, ⟨H2, n2⟩, _, YV, ex⟩;obtain ⟨HC,HD,HM,E⟩ := bG ex HC HD HM E;refine aa1 (fun YW => ?_) (fun YW => ?_)
 ·refine aU ?_;exact aa4 rfl rfl rfl ⟨none, 0, 0, none, 0, 0, by rw [sl, if_pos Om], by rw [sl, if_pos Om]; exact Bs.nil _ _, by rw [sl, if_pos Om]; exact Bs.nil _ _, Om, Om, Om, Rk.nil _ _, E⟩
 refine aU ?_;refine aB func166 rfl (wi A1 C k1 c1 k q _ is _ H1 Om HC hk) ?_;rintro e _ ⟨_, _, _, _, rfl, H3, H4, _, _, ex⟩;obtain ⟨HD,HM,E,H2,n2⟩ := fR ex HD HM E H2 n2;refine aU ?_;intro _ _ YX YU exA;refine aU ?_;intro _ _ cg;have ex := exA.aw cg YU; clear cg exA YX;obtain ⟨HD,HM,E,H2,n2,H3,H4⟩ := iW ex HD HM E H2 n2 H3 H4;refine aU ?_;have z5 := E.size;refine aB func55 rfl (wE _ H3 H4 HD Om HM Om hij) ?_;rintro e _ ⟨A5, c5, rfl, R5, ex⟩;obtain ⟨E,H2,n2⟩ := bh ex E H2 n2;have H5 := R5.bs;refine aU ?_;exact aa4 rfl rfl rfl ⟨A2, k2, c2, A5, z + 16, c5, by rw [sl, if_neg Om]; rfl, by rw [sl, if_neg Om]; exact H2, by rw [sl, if_neg Om]; exact H5, YV, Nat.le_refl _, R5.cap, ⟨n2.lo z1, R5.nw.lo z5⟩, E⟩
theorem nT (lb : ByteArray) (B : Oa) (m d : Nat) (cs : Lb) (w : aa9) (h2 : lb.size ≤ 100) (HB : Bs w B m cs) (hm : m ≤ 6000) :
  Ct 91 #[.string lb, .slice B m d] w fun e w' => ∃ A' k c', e = .returned (.slice A' k c') ∧ Bs w' A' k (info lb cs) ∧ k ≤ 1000 + m ∧ Ext w w' := by
 have E := Ext.refl w;have YV := Wire.bH (8 + lb.size); have YW := Wire.bH m;have hcat : cat [⟨#[77, 76, 83, 32, 49, 46, 48, 32]⟩, lb] = N1 ++ sb lb := by rw [kq, kq]; show N1 ++ (sb lb ++ []) = _; rw [List.append_nil]
 have hcl : (N1 ++ sb lb).length = 8 + lb.size := by rw [List.length_append, rn]; rfl
 refine ai 11 func91 ?_;intro _ aa4;refine aU ?_;refine af (aF (z := .string ByteArray.empty) Tn.u Kr rfl rfl rfl rfl rfl) rfl ?_;rintro _ _ ⟨_, rfl, B1, _, ex⟩;obtain ⟨HB,E⟩ := aS ex HB E;refine aB func167 rfl (tK [⟨#[77, 76, 83, 32, 49, 46, 48, 32]⟩, lb] 2 _ (B1.congr rfl) rfl Om (by rw [hcat, hcl]; omega)) ?_;rintro e _ ⟨A2, _, c2, rfl, R2, ex⟩;refine aU ?_;obtain ⟨HB,E⟩ := aS ex HB E;have H2 := R2.bs; rw [hcat] at H2; have YU := H2.1; rw [hcl] at YU; subst YU;refine aB func162 rfl (dS none A2 0 0 _ c2 [] _ _ (Bs.nil _ _) Om H2 Om) ?_;rintro e _ ⟨A3, k3, c3, rfl, R3, _, ex⟩;obtain ⟨HB,E⟩ := aS ex HB E;have H3 := R3.bs; rw [List.nil_append] at H3;refine aU ?_;refine aB func162 rfl (dS A3 B k3 c3 m d _ cs _ H3 Om HB Om) ?_;rintro e _ ⟨A4, k4, c4, rfl, R4, _, ex⟩;replace E := E.ext ex;have H4 := R4.bs;refine aU ?_;exact aa4 rfl ⟨A4, k4, c4, rfl, H4, Om, E⟩
theorem CP (A B C D : Oa) (lb : ByteArray) (n c m d k q z v : Nat) (xs ys cs ts : Lb) (w : aa9) (hlb : lb.size ≤ 100) (HA : Bs w A n xs) (hn : n ≤ 1000) (HB : Bs w B m ys) (hm : m ≤ 1000) (HC : Bs w C k cs) (hk : k ≤ 6000)
  (HD : Bs w D z ts) (hz : z ≤ 80000) :
  Ct 57 #[.slice A n c, .slice B m d, .string lb, .slice C k q, .slice D z v] w fun e w' => ∃ A1 k1 c1 A2 k2 c2, e = .returned (.tuple #[.slice A1 k1 c1, .slice A2 k2 c2, .int .u8 ((sl xs ys (info lb cs) ts []).2.2 : Int)]) ∧ Bs w' A1 k1 (sl xs ys (info lb cs) ts []).1 ∧
   Bs w' A2 k2 (sl xs ys (info lb cs) ts []).2.1 ∧ k1 ≤ 32 ∧ k2 ≤ z + 16 ∧ k2 ≤ c2 ∧ Rk w.heap.size w' A1 A2 ∧ Ext w w' := by
 have E := Ext.refl w;refine ny 23 func57 ?_;intro _ aa4;refine aU ?_;refine aB func91 rfl (nT lb C k q cs _ hlb HC Om) ?_;rintro e _ ⟨A1, k1, c1, rfl, H1, _, ex⟩;obtain ⟨HA,HB,HD,E⟩ := bG ex HA HB HD E;refine aU ?_;have z6 := E.size;refine aB func125 rfl (Jh A B A1 D none n c m d k1 c1 z v 0 0 xs ys _ ts [] _ HA hn HB hm H1 Om HD Om (Bs.nil _ _) Om Om) ?_;rintro e _ ⟨A2, k2, c2, A3, k3, c3, rfl, H2, H3, YU, YV, YW, t6, ex⟩;replace E := E.ext ex;refine aU ?_;exact aa4 rfl rfl rfl ⟨A2, k2, c2, A3, k3, c3, rfl, H2, H3, YU, YV, YW, t6.lo z6, E⟩
end
section
open Go.RowKit
variable {P : Program} {f : FuncId} {fn : Func} {c : Code} {R : Ending → aa9 → Prop}
theorem oG {t : TypeId} {d : TypeDesc} (hu : P.underlying t = some d) (hd : (match d with | .struct _ | .array _ _ => false | _ => true) = true) (w : aa9) : (isAgg t).run P w = .ok false w := by
 unfold isAgg;rw [Sem.run_bind, run_underlying hu w]
 cases d <;> first | rfl | (simp at hd)
theorem BX {ty YU : TypeId} {p q u : Tmp} (hr : fn.results = #[.cell p ty, .cell q YU, .tmp u]) (tmps : Array Value) (w : aa9) {d d' : TypeDesc} {g g' : Nat} {v v' x : Value} (hp : tmps.getD p undef = .pointer (cf g)) (hq : tmps.getD q undef = .pointer (cf g')) (hx : tmps.getD u undef = x) (hg : w.cell? ⟨g, 0, none⟩ = some v) (YV : w.cell? ⟨g', 0, none⟩ = some v')
  (hu : P.underlying ty = some d) (hd : (match d with | .struct _ | .array _ _ => false | _ => true) = true) (YW : P.underlying YU = some d') (YX : (match d' with | .struct _ | .array _ _ => false | _ => true) = true) : (results fn tmps).run P w = .ok (.tuple #[v, v', x]) w := by
 have YY : tmps[p]?.getD undef = .pointer (cf g) := by simpa using hp
 have YZ : tmps[q]?.getD undef = .pointer (cf g') := by simpa using hq
 have Y0 : tmps[u]?.getD undef = x := by simpa using hx
 have h1 := oG (P := P) hu hd w;have h2 := oG (P := P) YW YX w;simp [results, hr, YY, YZ, Y0, asAddr, loadVar, h1, h2, hg, YV]
theorem AJ {ty YU : TypeId} {d d' : TypeDesc} (N : Nat) {p q u : Tmp} (hf : P.funcs[f]? = some fn) (hb : fn.body = some c) (hN : fn.ntmps = N) (hr : fn.results = #[.cell p ty, .cell q YU, .tmp u]) (hu : P.underlying ty = some d) (hd : (match d with | .struct _ | .array _ _ => false | _ => true) = true) (YV : P.underlying YU = some d') (YW : (match d' with | .struct _ | .array _ _ => false | _ => true) = true) (hsz : Nat.ble args.size N = true)
  (h : ∀ Q : Exit → Act → aa9 → Prop, (∀ {N : Nat} {L : List (Nat × Value)} {w : aa9} {g g' : Nat} {v v' x : Value}, look L p = some (.pointer (cf g)) → look L q = some (.pointer (cf g')) → look L u = some x → w.cell? ⟨g, 0, none⟩ = some v → w.cell? ⟨g', 0, none⟩ = some v' → R (.returned (.tuple #[v, v', x])) w → WQ Q .ret N L w) → WC P Q c N (gF 0 args.toList) w) : Calls P f args w R :=
 gH N hf hb hN hsz fun Q hQ => h Q fun {N L w g g' v v' x} hv YX hx hg YY hR a ha => hQ (bodyPost_ret (v := .tuple #[v, v', x]) (BX hr _ _ (cI (ha.has _ _ hv)) (cI (ha.has _ _ YX)) (cI (ha.has _ _ hx)) hg YY hu hd YV YW) ha.defers hR)
end
open Go.RowKit Tryz
attribute [local irreducible] Ef WC WF WG WJ WK WL WM WN WQ WR Y cu db iC lW rQ
section
open Wire Nd M20
theorem kc {B : Oa} {d : Nat} (w : aa9) (HA : Bs w A n j) (HB : Bs w B m y) :
  Ct 97 #[.slice A n c, .slice B m d] w (ck w (.bool (decide (lT j y)))) := by
 have n1 := HA.1; have n2 := HB.1;have E := Ext.refl w;refine ai 18 func97 ?_;intro _ aa4;refine au 9 ?_;refine bL (ez rfl rfl) rfl (fun q1 => ?_) (fun q1 => ?_)
 ·refine au 3 ?_;refine bN 8 rfl rfl (ez rfl rfl) rfl (fun q2 => ?_) (fun q2 => ?_)
  ·refine aU ?_;exact aa4 rfl ⟨wO ⟨Om, .inl Om⟩, E⟩
  refine aU ?_;exact aa4 rfl ⟨dZ ⟨fun h => ⟨Om, .inr Om⟩, fun h => by have := h.2; omega⟩, E⟩
 refine aU ?_;refine fO 12 rfl rfl rfl ?_;refine fO 12 rfl rfl rfl ?_;refine fO 12 rfl rfl rfl ?_;refine aU ?_;exact aa4 rfl ⟨cW fun h => by have := h.1; omega, E⟩
theorem IH {B : Oa} {d : Nat} (w : aa9) (Ka : aq w ga ta #[.slice A n c]) (Kb : aq w gb tb #[.slice B m d]) (HA : Bs w A n j) (HB : Bs w B m y) (ok : lT j y) :
  Ct 190 #[.pointer (cf gb), .pointer (cf ga)] w fun e w' => ∃ A k c, e = .returned (.slice A k c) ∧ (Bs w' A k (mc j y) ∧ k ≤ c) ∧ Ext w w' := by
 have n1 := HA.1; have n2 := HB.1;have k1 := ok.1; have k2 := ok.2;have E := Ext.refl w;have hl := bH n;refine ai 16 func190 ?_;intro _ aa4;refine aa1 (fun YZ => ?_) (fun YZ => ?_)
 ·refine aU ?_;refine aB func87 rfl (dy none A 0 0 n c [] j _ (Bs.nil _ _) Om (Bs.ext HA E) Om) ?_;rintro e w2 ⟨A2, YV, c2, rfl, R2, YW, ex⟩;replace E := E.ext ex;refine aU ?_;refine af (aF (z := .int .u8 0) Tn.u Kr rfl rfl rfl rfl rfl) rfl ?_;rintro _ w3 ⟨g3, rfl, B3, YX, ex⟩;obtain ⟨E,R2⟩ := aS ex E R2;refine af (aT rfl rfl bV R2 (At.fA (vs := [bv 0]) (B3.congr (by rfl))) rfl (by intro u hu; simp only [List.mem_singleton] at hu; subst hu; rfl) Om Om E.size) rfl ?_;rintro _ w4 ⟨A4, c4, rfl, R4, be, YU, hgl⟩;replace E := E.trans be;refine aU ?_;exact aa4 rfl ⟨A4, _, c4, rfl, ⟨by have h := R4.congr (ys := (mc j y).map bv) rfl (by unfold mc; rw [if_pos Om]; simp); exact h.bs, R4.cap⟩, E⟩
 refine aU ?_;have Ko := Kb; have YY := Ka;refine zP [ga, gb] Kr 7 rfl ?_; intro Y2 ex Y3;obtain ⟨E,Ka,Kb⟩ := bh ex E Ka Kb;refine qt 0 rfl Kr (fun wr (kr : Kept [ga, gb] _ wr) => ah rfl Tn.u rfl ((Ka.NH kr).get (i := 0) rfl)) rfl ?_;refine qt 4 rfl Kr (fun wr (kr : Kept [ga, gb] _ wr) => ah rfl Tn.u rfl ((Kb.NH kr).get (i := 0) rfl)) rfl ?_;refine JU 1 2 Kr ?_ ?_
 ·skip;have hzz := E.size;refine ix rfl func87 rfl rfl rfl (dy none A 0 0 n c [] j _ (Bs.nil _ _) Om (Bs.ext HA E) Om) rfl ?_;rintro e w2 ⟨A2, YV, c2, rfl, R2, YW, ex⟩;refine ⟨_, rfl, Kept.ext ex (oe Ka.lt (oe Kb.lt uN)), ?_⟩;obtain ⟨E,Ka,Kb⟩ := bh ex E Ka Kb;replace R2 := R2.lower hzz;refine gJ 2 Kr ?_; refine qi rfl (aF (z := .int .u8 0) underlying23 Kr rfl rfl rfl rfl rfl) rfl ?_;rintro _ w3 ⟨g3, rfl, B3, YX, ex⟩;refine ⟨Kept.ext ex (oe Ka.lt (oe Kb.lt uN)), ?_⟩;obtain ⟨E,Ka,Kb,R2⟩ := bG ex E Ka Kb R2;refine gJ 3 Kr ?_; refine qi rfl (aT rfl rfl bV R2 (At.fA (vs := [bv 1]) (B3.congr (by rfl))) rfl (by intro u hu; simp only [List.mem_singleton] at hu; subst hu; rfl) Om Om E.size) rfl ?_;rintro _ w4 ⟨A4, c4, rfl, R4, be, YU, hgl⟩;have kp := Kept.own YU (oe Ka.lt (oe Kb.lt uN)) (oe (R2.vz YY.lt) (oe (R2.vz Ko.lt) uN));refine ⟨kp, ?_⟩;replace Ka := Ka.NH kp;replace Kb := Kb.NH kp;replace E := E.trans be;replace R4 : Row _ _ _ _ _ _ ((vec j ++ [1]).map bv) := R4.congr rfl (by simp);refine gJ 5 Kr ?_; refine ix rfl func87 rfl rfl rfl (dy A4 B _ c4 m d _ _ _ R4.bs Om (Bs.ext HB E) Om) rfl ?_;rintro e w5 ⟨A5, k5, c5, rfl, R5, Y0, ex⟩;refine ⟨_, rfl, Kept.ext ex (oe Ka.lt (oe Kb.lt uN)), ?_⟩;replace E := E.ext ex;refine qt 6 rfl Kr (fun wr (kr : Kept [ga, gb] _ wr) => di rfl) rfl ?_;refine sO Kr ?_;refine aU ?_;exact aa4 rfl ⟨A5, k5, c5, rfl, ⟨by have h := R5.congr (ys := (mc j y).map bv) rfl (by unfold mc; rw [if_neg Om]); exact h.bs, R5.cap⟩, E⟩
 skip;refine qi rfl (aF (z := .int .u8 0) underlying23 Kr rfl rfl rfl rfl rfl) rfl ?_;rintro _ w3 ⟨g3, rfl, B3, YX, ex⟩;refine ⟨Kept.ext ex (oe Ka.lt (oe Kb.lt uN)), ?_⟩;obtain ⟨E,Ka,Kb⟩ := bh ex E Ka Kb;have hzz := E.size;refine gJ 1 Kr ?_; refine ix rfl func87 rfl rfl rfl (dy none A 0 0 n c [] j _ (Bs.nil _ _) Om (Bs.ext HA E) Om) rfl ?_;rintro e w2 ⟨A2, YV, c2, rfl, R2, YW, ex⟩;refine ⟨_, rfl, Kept.ext ex (oe Ka.lt (oe Kb.lt uN)), ?_⟩;obtain ⟨E,Ka,Kb,B3⟩ := bG ex E Ka Kb B3;replace R2 := R2.lower hzz;refine gJ 3 Kr ?_; refine qi rfl (aT rfl rfl bV R2 (At.fA (vs := [bv 1]) (B3.congr (by rfl))) rfl (by intro u hu; simp only [List.mem_singleton] at hu; subst hu; rfl) Om Om E.size) rfl ?_;rintro _ w4 ⟨A4, c4, rfl, R4, be, YU, hgl⟩;have kp := Kept.own YU (oe Ka.lt (oe Kb.lt uN)) (oe (R2.vz YY.lt) (oe (R2.vz Ko.lt) uN));refine ⟨kp, ?_⟩;replace Ka := Ka.NH kp;replace Kb := Kb.NH kp;replace E := E.trans be;replace R4 : Row _ _ _ _ _ _ ((vec j ++ [1]).map bv) := R4.congr rfl (by simp);refine gJ 5 Kr ?_; refine ix rfl func87 rfl rfl rfl (dy A4 B _ c4 m d _ _ _ R4.bs Om (Bs.ext HB E) Om) rfl ?_;rintro e w5 ⟨A5, k5, c5, rfl, R5, Y0, ex⟩;refine ⟨_, rfl, Kept.ext ex (oe Ka.lt (oe Kb.lt uN)), ?_⟩;replace E := E.ext ex;refine qt 6 rfl Kr (fun wr (kr : Kept [ga, gb] _ wr) => di rfl) rfl ?_;refine sO Kr ?_;refine aU ?_;exact aa4 rfl ⟨A5, k5, c5, rfl, ⟨by have h := R5.congr (ys := (mc j y).map bv) rfl (by unfold mc; rw [if_neg Om]); exact h.bs, R5.cap⟩, E⟩
theorem rm {B : Oa} {d : Nat} (w : aa9) (HA : Bs w A n j) (HB : Bs w B m y) :
  Ct 129 #[.slice A n c, .slice B m d] w fun e w' => ∃ A k c z, e = .returned (.tuple #[.slice A k c, .int .u8 ((z : Nat) : Int)]) ∧ Told w' (lT j y) (mc j y) A k z ∧ k ≤ c ∧ Ext w w' := by
 have E := Ext.refl w;refine aZ 13 func129 ?_;intro _ aa4;refine aU ?_;intro _ YU B2 _ ex;replace E := E.ext ex;refine aU ?_;intro _ YV B3 _ ex;obtain ⟨E,B2⟩ := aS ex E B2;refine aU ?_;refine aB func97 rfl (kc _ (Bs.ext HA E) (Bs.ext HB E)) ?_;rintro e _ ⟨rfl, ex⟩;obtain ⟨E,B2,B3⟩ := bh ex E B2 B3;refine au 1 ?_;refine ak (gC (xs := [.tmp 3, .tmp 2]) (vs := [.pointer (cf YV), .pointer (cf YU)]) rfl) ?_;refine aB func83 rfl (mF (us := [.pointer (cf YV), .pointer (cf YU)]) (Ψ := fun w A k c => Bs w A k (mc j y) ∧ k ≤ c) _ func190 rfl rfl (fun hok w1 e1 => IH w1 (B2.ext e1) (B3.ext e1) (Bs.ext HA (E.ext e1)) (Bs.ext HB (E.ext e1)) (aa2 hok))) ?_;rintro e _ ⟨A3, k3, c3, z3, rfl, T3, N3, ex⟩;replace E := E.ext ex;refine aU ?_;exact aa4 rfl rfl ⟨A3, k3, c3, z3, rfl, ⟨fun o => ⟨(T3 (decide_eq_true o)).1, (T3 (decide_eq_true o)).2.1⟩, fun o => ⟨(N3 (decide_eq_false o)).1, (N3 (decide_eq_false o)).2.2.1⟩⟩, (by by_cases o : lT j y; exact (T3 (decide_eq_true o)).2.2; have h := N3 (decide_eq_false o); omega), E⟩
theorem Dt {N gi gr M : Nat} {s : St} (w : aa9) (H : In N [gi, gr, g2, g5, g3] w gi gr s) (C2 : aq w g2 23 #[.slice none 0 0]) (C5 : aq w g5 4 #[.bool false]) (C3 : aq w g3 23 #[.slice none 0 0]) (i2 : gi ≠ g2) (i5 : gi ≠ g5) (i3 : gi ≠ g3) (r2 : gr ≠ g2) (r5 : gr ≠ g5) (r3 : gr ≠ g3) (n25 : g2 ≠ g5) (YW : g2 ≠ g3) (n53 : g5 ≠ g3) (YX : M ≤ gi) (YY : M ≤ gr) (hM : M ≤ w.heap.size) :
  Ct 92 #[.pointer (cf gi), .pointer (cf g2), .pointer (cf g5), .pointer (cf g3)] w fun e w' => e = .returned (.tuple #[]) ∧ In N [gi, gr, g2, g5, g3] w' gi gr (kE s).2 ∧ (∃ h h' : Hd, aq w' g2 23 #[.slice h.A h.n h.c] ∧ aq w' g5 4 #[.bool (kE s).1.2.1] ∧ aq w' g3 23 #[.slice h'.A h'.n h'.c] ∧ Kp w'.heap.size [gi, g2, g5, g3] (fun w => Fb M w h.A h.n (kE s).1.1 ∧ Fb M w h'.A h'.n (kE s).1.2.2) w') ∧ Ud M [g2, g5, g3] w w' := by
 have hli := H.VO;have hlr := H.Vq;have l2 := C2.lt; have l5 := C5.lt; have l3 := C3.lt;have F := aI.refl [gr, gi, g2, g5, g3] w
 obtain ⟨g, hg⟩ : ∃ g, g = iE s := ⟨_, rfl⟩
 obtain ⟨f, hf⟩ : ∃ f, f = kB g.2 := ⟨_, rfl⟩
 obtain ⟨y, hy⟩ : ∃ y, y = if f.1 then iE f.2 else ([], f.2) := ⟨_, rfl⟩
 have hX : kE s = ((g.1, f.1, y.1), y.2) := by rw [hy, hf, hg]; rfl
 refine eX 12 func92 ?_;intro _ aa4;refine aU ?_;refine aB func93 rfl (jx _ H) ?_;rintro e _ ⟨A1, n1, c1, rfl, _, V1, H1, ex⟩;refine au 1 ?_;obtain ⟨F,C2,C5,C3⟩ := j6 ex F C2 C5 C3;rw [← hg] at V1 H1; have J1 := V1.kk (S := [gi, gr, g2, g5, g3]) So;refine aU ?_;intro _ D cg;have ex := aI.one cg;clear cg;obtain ⟨F,C5,C3,H1,J1⟩ := vf ex F C5 C3 H1 J1;replace C2 := D; clear D;replace C2 := C2.congr (cs' := #[.slice A1 n1 c1]) rfl;refine aU ?_;refine aB func94 rfl (Jt _ H1) ?_;rintro e _ ⟨rfl, H2, ex⟩;refine au 1 ?_;rw [← hf] at H2 ⊢;obtain ⟨F,C2,C5,C3,J1⟩ := vf ex F C2 C5 C3 J1;refine aU ?_;intro _ D cg;have ex := aI.one cg;clear cg;obtain ⟨F,C2,C3,J1,H2⟩ := vf ex F C2 C3 J1 H2;replace C5 := D; clear D;replace C5 := C5.congr (cs' := #[.bool f.1]) rfl;refine aU ?_;refine bw rfl (fun YU => ?_) (fun YU => ?_)
 ·refine aU ?_;have q3 := F.size;have YV : y = iE f.2 := by rw [hy, if_pos YU]
  refine aB func93 rfl (jx _ H2) ?_;rintro e _ ⟨A2, n2, c2, rfl, _, V2, H3, ex⟩;refine au 1 ?_;obtain ⟨F,C2,C5,C3,J1⟩ := vf ex F C2 C5 C3 J1;rw [← YV] at V2 H3; have J2 := V2.kk (S := [gi, gr, g2, g5, g3]) So;refine aU ?_;intro _ D cg;have ex := aI.one cg;clear cg;obtain ⟨F,C2,C5,J1,H3,J2⟩ := mg ex F C2 C5 J1 H3 J2;replace C3 := D; clear D;replace C3 := C3.congr (cs' := #[.slice A2 n2 c2]) rfl;refine aU ?_;refine aa4 (.inr rfl) ?_;rw [hX];exact ⟨rfl, H3, ⟨⟨A1, n1, c1⟩, ⟨A2, n2, c2⟩, C2, C5, C3, ((J1.uP J1.1 (Nat.le_refl _)).and (J2.uP J2.1 (Nat.le_refl _))).map (fun _ ⟨a, b⟩ => ⟨a.mono Om, b.mono Om⟩) |>.mono (by simp)⟩, F.SX hM⟩
 refine aU ?_;refine aa4 (.inr rfl) ?_;have YV : y = ([], f.2) := by rw [hy, if_neg (by rw [YU]; decide)]
 rw [hX, YV];exact ⟨rfl, H2, ⟨⟨A1, n1, c1⟩, ar, C2, C5, C3, (J1.uP J1.1 (Nat.le_refl _)).map (fun _ a => ⟨a.mono Om, Fb.nil _ _ _⟩) |>.mono (by simp)⟩, F.SX hM⟩
theorem Di {h h' : Hd} {f : Bool} (w : aa9) (C2 : aq w g2 23 #[.slice h.A h.n h.c]) (C5 : aq w g5 4 #[.bool f]) (C3 : aq w g3 23 #[.slice h'.A h'.n h'.c]) (HA : Bs w h.A h.n j) (HB : Bs w h'.A h'.n y) :
  Ct 96 #[.pointer (cf g2), .pointer (cf g3), .pointer (cf g5)] w (ck w (.bool (decide (lC (j, f, y))))) := by
 have hl := HB.1;have E := Ext.refl w;refine ai 14 func96 ?_;intro _ aa4;refine aU ?_;refine aB func97 rfl (kc _ (Bs.ext HA E) (Bs.ext HB E)) ?_;rintro e _ ⟨rfl, ex⟩;obtain ⟨E,C5,C3⟩ := bh ex E C5 C3;refine au 1 ?_;refine bL (aL rfl) rfl (fun q0 => ?_) (fun q0 => ?_)
 ·refine au 4 ?_;refine qG 7 (Sd rfl rfl Tn.u) ?_;refine aU ?_;refine aa4 rfl ?_
  have key : decide (lC (j, f, y)) = true ↔ f = decide (0 < (h'.n : Int)) := by
   rw [decide_eq_true_iff];constructor
   ·intro o;have o2 : f = true ↔ 0 < y.length := o.2
    cases f with
    | true => rw [eq_comm, decide_eq_true_iff]; have := o2.1 rfl; omega
    | false => rw [eq_comm, decide_eq_false_iff_not]; intro h; have := o2.2 Om; cases this
   intro e;refine ⟨q0, ?_⟩;show f = true ↔ 0 < y.length;rw [e, decide_eq_true_iff]; omega
  exact ⟨(r8 key).symm, E⟩
 refine aU ?_;exact aa4 rfl ⟨cW fun h => q0 h.1, E⟩
theorem uT {b : Lb} (w : aa9) (HA : Bs w A n b) (hc : n ≤ c) (hn : n ≤ 1048576) :
  Ct 39 #[.slice A n c] w fun e w' => ∃ h h' : Hd, e = .returned (.tuple #[.slice h.A h.n h.c, .slice h'.A h'.n h'.c, .int .u8 (((fY b).2 : Nat) : Int)]) ∧ Bs w' h.A h.n (fY b).1.1 ∧ Bs w' h'.A h'.n (fY b).1.2.2 ∧ (fY b).2 < 256 ∧ Ext w w' := by
 have F := aI.refl [] w;have KA : Kp w.heap.size [] (fun w => Bs w A n b) w := Kp.bs HA (by simp);have hX : fY b = fx ([], false, []) (kE (.ok b)) (decide (lC (kE (.ok b)).1)) := rfl;refine AJ 18 func39 rfl rfl rfl underlying23 rfl underlying23 rfl rfl ?_;intro _ aa4;refine aU ?_;intro _ YV B2 Y0 ex;have Zd := ex.size;replace F := F.grow ex Y0;replace KA := KA.grow ex Y0;refine aU ?_;intro _ YW B3 YX ex;have Y3 : YV < YW := Nat.lt_of_lt_of_le B2.lt YX;replace F := F.grow ex YX;replace KA := KA.grow ex YX;replace B2 := B2.grow ex YX;refine aU ?_;intro _ YZ B5 YU ex;have Za : YV < YZ := Nat.lt_of_lt_of_le B2.lt YU;have Zb : YW < YZ := Nat.lt_of_lt_of_le B3.lt YU;replace F := F.grow ex YU;replace KA := KA.grow ex YU;replace B2 := B2.grow ex YU;replace B3 := B3.grow ex YU;refine aU ?_;intro YY D cg;have ex := aI.one cg;clear cg;obtain ⟨F,KA,B2,B3⟩ := j6 ex F KA B2 B3;replace B5 := D; clear D;refine au 4 ?_;refine ak (gC rfl) ?_;refine au 8 ?_;refine ak (gC rfl) ?_;have q2 := B2.lt; have q3 := B3.lt; have q5 := B5.lt;replace B5 := B5.congr (cs' := #[.bool false]) rfl;refine aB func95 rfl (zn (N := w.heap.size) (V := [YV, YZ, YW]) (t := (kE (.ok b)).2) (okv := decide (lC (kE (.ok b)).1)) (us := [.pointer (cf YV), .pointer (cf YZ), .pointer (cf YW)]) (vs := [.pointer (cf YV), .pointer (cf YW), .pointer (cf YZ)]) (Ψ := fun gi w => ∃ h h' : Hd, aq w YV 23 #[.slice h.A h.n h.c] ∧ aq w YZ 4 #[.bool (kE (.ok b)).1.2.1] ∧ aq w YW 23 #[.slice h'.A h'.n h'.c] ∧ Kp w.heap.size [gi, YV, YZ, YW] (fun w => Fb YY.heap.size w h.A h.n (kE (.ok b)).1.1 ∧ Fb YY.heap.size w h'.A h'.n (kE (.ok b)).1.2.2) w) _ (KA.mono (by simp)) hc Om So func92 rfl rfl func96 rfl rfl (fun w1 gi gr E hi hr H hS => Dt w1 H (B2.ext E) (B5.ext E) (B3.ext E) Om Om Om Om Om Om Om Om Om Om Om (by have := E.size; omega)) (fun gi w1 w2 hi ⟨h, h', a, b', c', K⟩ C => ⟨h, h', a.bD C So, b'.bD C So, c'.bD C So, (K.bD C (by simp)).uP C.size (Nat.le_refl _)⟩) (fun gi w1 ⟨h, h', a, b', c', K⟩ _ => Di w1 a b' c' K.out.1.1 K.out.2.1)) ?_;rintro e _ ⟨rfl, ⟨gi, _, h, h', D2, _, D3, KM⟩, Y2, ex⟩;replace F := F.bD ex;have B2 := D2; have B3 := D3; have Ja := KM.out.1.kk (S := [YV, YW]) So; have Jb := KM.out.2.kk (S := [YV, YW]) So; clear KM;refine aa1 (fun Zc => ?_) (fun Zc => ?_)
 ·have e1 := Bk (z := (([], false, []) : List UInt8 × Bool × List UInt8)) (p := kE (.ok b)) (ok := decide (lC (kE (.ok b)).1)) Om;refine aU ?_;intro _ D cg;have ex := aI.one cg;clear cg;obtain ⟨F,B3⟩ := jT ex F B3;replace B2 := D; clear D;refine aU ?_;intro _ D cg;have ex := aI.one cg;clear cg;obtain ⟨F,B2⟩ := jT ex F B2;replace B3 := D; clear D;refine aU ?_;refine aa4 rfl rfl rfl (B2.get (i := 0) rfl) (B3.get (i := 0) rfl) ?_;rw [hX, e1]; exact ⟨ar, ar, rfl, Bs.nil _ _, Bs.nil _ _, (by dsimp only; split; exact Y2; split <;> omega), (F.drop Om).drop Om |>.drop Om |>.bF (by simp)⟩
 refine aU ?_;have e1 := vW (z := (([], false, []) : List UInt8 × Bool × List UInt8)) (p := kE (.ok b)) (ok := decide (lC (kE (.ok b)).1)) Om;refine jH [(2, [YV]), (3, [YW])] Kr 5 rfl ?_; intro Ze ex Zf;obtain ⟨F,B2,B3,Ja,Jb⟩ := fR ex F B2 B3 Ja Jb;refine zr [(0, []), (1, [2])] ?_;refine aU ?_;refine fm 2 Kr ?_; refine iF rfl (az (i := 0) rfl rfl rfl Kr B2 Nb) rfl ?_;rintro _ _ ⟨rfl, D, cg⟩;have ex := aI.one cg;clear cg;refine ⟨ex, ?_⟩;obtain ⟨F,B3,Ja,Jb⟩ := j6 ex F B3 Ja Jb;replace B2 := D; clear D;refine fm 3 Kr ?_; refine iF rfl (az (i := 0) rfl rfl rfl Kr B3 Nb) rfl ?_;rintro _ _ ⟨rfl, D, cg⟩;have ex := aI.one cg;clear cg;refine ⟨ex, ?_⟩;obtain ⟨F,B2,Ja,Jb⟩ := j6 ex F B2 Ja Jb;replace B3 := D; clear D;refine zr [(4, [])] ?_;refine aU ?_;refine jR Kr ?_;refine aU ?_;refine aa4 rfl rfl rfl (B2.get (i := 0) rfl) (B3.get (i := 0) rfl) ?_;rw [hX, e1]; exact ⟨h, h', rfl, Ja.out.1, Jb.out.1, (by show 0 < 256; omega), (F.drop Om).drop Om |>.drop Om |>.bF (by simp)⟩
end
section
open Wire Nd Hk
/-! Blocks in which no byte lies. -/
def zv (cs : Array Value) : Bool := cs.toList.all fun v => match v with | .int .u8 _ => false | _ => true
theorem Bs.Wy {xs : Lb} (H : Bs w A n xs) (B : aq w b t cs) (h8 : zv cs = true) (hn : 0 < n) (o : Nat) : A ≠ some ⟨b, o, none⟩ := fun e => by
 obtain ⟨b', off, hA, _, hc⟩ := H.get (k := 0) hn;rw [e] at hA;injection hA with hA
 injection hA with hA _ _
 subst hA;rw [B.cell] at hc;rw [← Array.getElem?_toList] at hc;have h := List.all_eq_true.1 h8 _ (List.mem_of_getElem? hc);cases h
theorem lI {xs : Lb} (H : Bs w A n xs) (hS : ∀ g ∈ S, ∃ t cs, aq w g t cs ∧ zv cs = true) : Kp w.heap.size S (fun w => Bs w A n xs) w :=
 Kp.bs H fun hn g hg o => by obtain ⟨t, cs, B, h⟩ := hS g hg; exact H.Wy B h hn o
theorem gA : ∀ g ∈ ([] : List Nat), ∃ t cs, aq w g t cs ∧ zv cs = true := fun _ h => by cases h
theorem dg (B : aq w a t cs) (h : zv cs = true) (hS : ∀ g ∈ S, ∃ t cs, aq w g t cs ∧ zv cs = true) : ∀ g ∈ a :: S, ∃ t cs, aq w g t cs ∧ zv cs = true := fun g hg => by grind
/-! Welcomes whose slices have their capacities; what a welcome has for one. -/
def tM (w : aa9) (cs : Array Value) (x : nJ) : Prop := Ge w cs x ∧ ∀ A n c, cs[2]? = some (.slice A n c) → n ≤ c
def tf (w : aa9) (cs : Array Value) (x : nG) : Prop := ∃ h0 h1, cs = gS h0 h1 ∧ rz tM 3 w h0.A h0.n x.guests ∧ (qP w h1 x.info ∧ h1.n ≤ h1.c)
theorem tM.ext (h : tM w cs x) (e : Ext w w') : tM w' cs x := ⟨h.1.ext e, h.2⟩
theorem tf.ext {x : nG} (h : tf w cs x) (e : Ext w w') : tf w' cs x := by obtain ⟨h0, h1, rfl, a, b⟩ := h;exact ⟨h0, h1, rfl, a.ext e fun _ _ h => tM.ext h e, Bs.ext b.1 e, b.2⟩
structure sJ where
 info : fK
 secs : List (List UInt8)
 way : List UInt8
def sJ.zero : sJ := ⟨fK.zero, List.replicate 12 [], []⟩
def wR (a b c d e f g h i j k l : Hd) : Array Value := #[.slice a.A a.n a.c, .slice b.A b.n b.c, .slice c.A c.n c.c, .slice d.A d.n d.c, .slice e.A e.n e.c, .slice f.A f.n f.c, .slice g.A g.n g.c, .slice h.A h.n h.c, .slice i.A i.n i.c, .slice j.A j.n j.c, .slice k.A k.n k.c, .slice l.A l.n l.c]
def Pw (g : Hd) (ep : Nat) (t u tg : Hd) (z : Int) (sg a b c d e f g' h i j k l y : Hd) : Array Value := #[.slice g.A g.n g.c, .int .u64 (ep : Int), .slice t.A t.n t.c, .slice u.A u.n u.c, .slice tg.A tg.n tg.c, .int .i64 z, .slice sg.A sg.n sg.c, .slice a.A a.n a.c, .slice b.A b.n b.c, .slice c.A c.n c.c, .slice d.A d.n d.c, .slice e.A e.n e.c, .slice f.A f.n f.c, .slice g'.A g'.n g'.c, .slice h.A h.n h.c, .slice i.A i.n i.c, .slice j.A j.n j.c, .slice k.A k.n k.c, .slice l.A l.n l.c, .slice y.A y.n y.c]
def dP : Array Value := Pw ar 0 ar ar ar 0 ar ar ar ar ar ar ar ar ar ar ar ar ar ar
def nQ (w : aa9) (cs : Array Value) (x : sJ) : Prop :=
 ∃ g t u tg sg a b c d e f g' h i j k l y, cs = Pw g x.info.ctx.ep t u tg x.info.frm sg a b c d e f g' h i j k l y ∧ eP w (kA g x.info.ctx.ep t u tg x.info.frm sg) x.info ∧ cN w (wR a b c d e f g' h i j k l) x.secs ∧ qP w y x.way
theorem cN.form (H : cN w cs s) : ∃ a b c d e f g h i j k l : Hd, cs = wR a b c d e f g h i j k l := by
 have hz := H.size
 have hd : ∀ i, i < 12 → ∃ h : Hd, cs[i]? = some (.slice h.A h.n h.c) := fun i hi => by obtain ⟨A, n, c, h1, _⟩ := H.get hi;exact ⟨⟨A, n, c⟩, h1⟩
 obtain ⟨a, ea⟩ := hd 0 Om;obtain ⟨b, eb⟩ := hd 1 Om;obtain ⟨c, ec⟩ := hd 2 Om;obtain ⟨d, ed⟩ := hd 3 Om;obtain ⟨e, ee⟩ := hd 4 Om;obtain ⟨f, ef⟩ := hd 5 Om;obtain ⟨g, eg⟩ := hd 6 Om;obtain ⟨h, eh⟩ := hd 7 Om;obtain ⟨i, ei⟩ := hd 8 Om;obtain ⟨j, ej⟩ := hd 9 Om;obtain ⟨k, ek⟩ := hd 10 Om;obtain ⟨l, el⟩ := hd 11 Om;refine ⟨a, b, c, d, e, f, g, h, i, j, k, l, ?_⟩;refine Array.ext_getElem? fun q => ?_
 match q with
 | 0 => exact ea
 | 1 => exact eb
 | 2 => exact ec
 | 3 => exact ed
 | 4 => exact ee
 | 5 => exact ef
 | 6 => exact eg
 | 7 => exact eh
 | 8 => exact ei
 | 9 => exact ej
 | 10 => exact ek
 | 11 => exact el
 | q + 12 => rw [Array.getElem?_eq_none Om]; exact (Array.getElem?_eq_none (by show 12 ≤ _; omega)).symm
theorem Qi (w : aa9) : cN w (wR ar ar ar ar ar ar ar ar ar ar ar ar) (List.replicate 12 []) := by
 refine ⟨List.replicate 12 (.slice none 0 0), rfl, rfl, rfl, fun i hi => ⟨none, 0, 0, ?_, ?_⟩⟩
 ·rw [List.getElem?_replicate, if_pos hi]
 rw [List.getD_eq_getElem?_getD, List.getElem?_replicate, if_pos hi]; exact Bs.nil _ _
theorem nQ.zero (w : aa9) : nQ w dP sJ.zero :=
 ⟨ar, ar, ar, ar, ar, ar, ar, ar, ar, ar, ar, ar, ar, ar, ar, ar, ar, ar, rfl, ⟨ar, ar, ar, ar, ar, rfl, (by decide), (by decide), Bs.nil _ _, Bs.nil _ _, Bs.nil _ _, Bs.nil _ _, Bs.nil _ _⟩, Qi w, Bs.nil _ _⟩
theorem xU (H : cN w cs s) (hS : ∀ g ∈ S, ∃ t cs, aq w g t cs ∧ zv cs = true) : Kp w.heap.size S (fun w => cN w cs s) w := by refine ⟨Nat.le_refl _, fun w2 hw => ?_⟩;obtain ⟨vs, h1, h2, h3, h4⟩ := H;exact ⟨vs, h1, h2, h3, fun i hi => by obtain ⟨A, n, c, h5, h6⟩ := h4 i hi; exact ⟨A, n, c, h5, (lI h6 hS).2 w2 hw⟩⟩
theorem xy {x : fK} (H : eP w cs x) (hS : ∀ g ∈ S, ∃ t cs, aq w g t cs ∧ zv cs = true) : Kp w.heap.size S (fun w => eP w cs x) w :=
 ⟨Nat.le_refl _, fun w2 hw => mV.imp H fun _ _ b => (lI b hS).2 w2 hw⟩
/-! What a welcome has for a package, plainly. -/
def tY : ByteArray := ⟨#[87, 101, 108, 99, 111, 109, 101]⟩
theorem wF : tY.size ≤ 100 := by decide
def vV (x : nG) (j way t : Lb) : sJ × Nat :=
 if (M20.eO t).2 ≠ 0 then (sJ.zero, (M20.eO t).2)
 else if (M20.eO t).1.tag ≠ Mac.tag ((dD j (M20.eO t).1.ctx).getD 8 []) (M20.eO t).1.ctx.trans then (sJ.zero, 16)
 else (⟨(M20.eO t).1, dD j (M20.eO t).1.ctx, way⟩, 0)
def ph (j : Lb) : List UInt8 := Kdf.label (qU j) ko.data.toList [] 32
def U0 (x : nG) (j way : Lb) : Option (List UInt8) → sJ × Nat
 | none => (sJ.zero, 11)
 | some t => vV x j way t
def PO (x : nG) (j way : Lb) : sJ × Nat := U0 x j way (Gm.Ca (Kdf.label (ph j) uz.data.toList [] 16) (Kdf.label (ph j) jt.data.toList [] 12) x.info [])
def yU (x : nG) (t : Lb) : sJ × Nat := if (M20.fY t).2 ≠ 0 then (sJ.zero, (M20.fY t).2) else PO x (M20.fY t).1.1 (M20.fY t).1.2.2
def Ev (x : nG) (ini : Lb) (g : nJ) : sJ × Nat :=
 if (op ini g.enc (Hk.info tY x.info) g.box []).2 ≠ 0 then (sJ.zero, (op ini g.enc (Hk.info tY x.info) g.box []).2) else yU x (op ini g.enc (Hk.info tY x.info) g.box []).1
def Vl (x : nG) (ini : Lb) : Option nJ → sJ × Nat
 | none => (sJ.zero, 7)
 | some g => Ev x ini g
def eL (x : nG) (p : Pack) (ini : Lb) : sJ × Nat := if ¬ dn p then (sJ.zero, 3) else Vl x ini (x.guests.find? fun g => decide (g.ref = dW p))
theorem qy {α : Type} (p : α → Bool) (l : List α) (i : Nat) (x : α) (hx : l[i]? = some x) (h : (l.take i).find? p = none) (hp : p x = true) : l.find? p = some x := by
 obtain ⟨hi, hx⟩ := List.getElem?_eq_some_iff.1 hx;have e2 : l.drop i = x :: l.drop (i + 1) := by rw [List.drop_eq_getElem_cons hi, hx]
 have h2 : (l.take i ++ l.drop i).find? p = some x := by rw [e2, List.find?_append, h, Option.none_or, List.find?_cons_of_pos hp]
 rwa [List.take_append_drop] at h2
theorem xP (w : aa9) : tf w (gS ar ar) nG.zero := ⟨ar, ar, rfl, ⟨rfl, [], rfl, .inl rfl, fun i x h => by cases h⟩, Bs.nil _ _, Nat.le_refl _⟩
end
open Wire Nd Hk
structure Gs where
 pk : Pack
 way : List UInt8
def FV (i h0 h1 h2 : Hd) (s : Nat) (h4 h5 g y : Hd) : Array Value := #[.slice i.A i.n i.c, .slice h0.A h0.n h0.c, .slice h1.A h1.n h1.c, .slice h2.A h2.n h2.c, .int .u8 (s : Int), .slice h4.A h4.n h4.c, .slice h5.A h5.n h5.c, .slice g.A g.n g.c, .slice y.A y.n y.c]
def Ej (B : Hd → List UInt8 → Prop) (cs : Array Value) (x : Gs) : Prop :=
 ∃ i h0 h1 h2 h4 h5 g y, cs = FV i h0 h1 h2 x.pk.leaf.src h4 h5 g y ∧ x.pk.leaf.src < 256 ∧ B i x.pk.init ∧ B h0 x.pk.leaf.box ∧ B h1 x.pk.leaf.sign ∧ B h2 x.pk.leaf.ident ∧ B h4 x.pk.leaf.parent ∧ B h5 x.pk.leaf.sig ∧ B g x.pk.sig ∧ B y x.way
def qw (w : aa9) (cs : Array Value) (x : Gs) : Prop := Ej (qP w) cs x
theorem Ej.imp {B B' : Hd → List UInt8 → Prop} {x : Gs} (h : Ej B cs x) (f : ∀ h xs, B h xs → B' h xs) : Ej B' cs x := by obtain ⟨i, h0, h1, h2, h4, h5, g, y, e, p, q, q0, q1, q2, q4, q5, r, t⟩ := h;exact ⟨i, h0, h1, h2, h4, h5, g, y, e, p, f _ _ q, f _ _ q0, f _ _ q1, f _ _ q2, f _ _ q4, f _ _ q5, f _ _ r, f _ _ t⟩
theorem qw.ext {x : Gs} (h : qw w cs x) (e : Ext w w') : qw w' cs x := Ej.imp h fun _ _ b => Bs.ext b e
def N4 : ByteArray := ⟨#[103, 117, 101, 115, 116]⟩
def RW (seed : Lb) (k : Nat) : List UInt8 := Kdf.label seed N4.data.toList (Wire.be 4 k) 32
def gP (j seed inf : Lb) (k : Nat) (x : Gs) : List UInt8 × List UInt8 × Nat := sl x.pk.init (RW seed k) (Hk.info tY inf) (mc j x.way) []
def nH (j seed inf : Lb) (k : Nat) (x : Gs) : nJ × Nat :=
 if ¬ dn x.pk ∨ ¬ lT j x.way then (nJ.zero, 3) else (⟨dW x.pk, (gP j seed inf k x).1, (gP j seed inf k x).2.1⟩, (gP j seed inf k x).2.2)
def r9 (base : Nat) (w : aa9) (cs : Array Value) (x : nJ) : Prop := ∃ a b c, cs = eQ a b c ∧ Fb base w a.A a.n x.ref ∧ Fb base w b.A b.n x.enc ∧ Fb base w c.A c.n x.box ∧ c.n ≤ c.c
theorem r9.mono (h : r9 base w cs x) (hb : b ≤ base) : r9 b w cs x := by obtain ⟨a, c, d, e, h1, h2, h3, h4⟩ := h; exact ⟨a, c, d, e, h1.mono hb, h2.mono hb, h3.mono hb, h4⟩
theorem r9.zero (base : Nat) (w : aa9) : r9 base w (eQ ar ar ar) nJ.zero := ⟨ar, ar, ar, rfl, Fb.nil _ _ _, Fb.nil _ _ _, Fb.nil _ _ _, Nat.le_refl _⟩
theorem Fy (j y : Lb) : (mc j y).length ≤ j.length + y.length + 20 := by have h1 := Wire.bH j.length; have h2 := Wire.bH y.length;unfold mc; split <;> simp [jr] <;> omega
theorem MF {x : Gs} {bs bd bi : Nat} {nd cd ni ci : Nat} {inf : Lb} (k : Nat) (w : aa9) (HX : qw w ds x) (hx : x.pk.Small) (hw : x.way.length ≤ 1000)
  (S1 : aq w bs 44 ss) (HS : cN w ss ts) (hj : (ts.getD 0 []).length ≤ 1000) (S2 : aq w bd 23 #[.slice D nd cd]) (HD : Bs w D nd seed) (hnd : nd ≤ 1000) (S3 : aq w bi 23 #[.slice I ni ci]) (HI : Bs w I ni inf) (hni : ni ≤ 6000) (hk : k < 4294967296) :
  Ct 128 #[.int .i64 (k : Int), .agg ds, .pointer (cf bs), .pointer (cf bd), .pointer (cf bi)] w fun e w' => ∃ cs, e = .returned (.tuple #[.agg cs, .int .u8 ((nH (ts.getD 0 []) seed inf k x).2 : Int)]) ∧ r9 w.heap.size w' cs (nH (ts.getD 0 []) seed inf k x).1 ∧ Ext w w' := by
 have Zv := HX;obtain ⟨i, h0, h1, h2, h4, h5, g, y, rfl, hsrc, q, q0, q1, q2, q4, q5, r, HY⟩ := HX
 have HP : dv w (dK i h0 h1 h2 x.pk.leaf.src h4 h5 g) x.pk := ⟨i, h0, h1, h2, h4, h5, g, rfl, hsrc, q, q0, q1, q2, q4, q5, r⟩
 obtain ⟨J, nj, cj, Zk, HJ⟩ := HS.get (i := 0) Om;have F := aI.refl [] w;have lw := HY.1; have lj := HJ.1; have ld := HD.1; have lq := q.1; have hq := hx.1;refine cF (s := 3) 63 func128 rfl rfl rfl underlying37 rfl Kr rfl ?_;intro _ aa4;refine aU ?_;intro _ Za B6 _ ex;have Zw := B6.lt;obtain ⟨F,S1,S2,S3⟩ := bG ex F S1 S2 S3;refine aU ?_;intro _ Zb B7 YU ex;have Zx := B7.lt;replace F := F.grow ex YU;replace S1 := S1.grow ex YU;replace S2 := S2.grow ex YU;replace S3 := S3.grow ex YU;replace B6 := B6.grow ex YU;have b6 := B6.lt; have y1 := F.size;refine aU ?_;have X1 := F.bF So;refine aB func36 rfl (fI _ (iO.imp HP fun _ _ b => Bs.ext b X1) hx) ?_;rintro e _ ⟨A9, k9, c9, _, rfl, T9, n9, ex⟩;obtain ⟨F,S1,S2,S3,B6,B7⟩ := iz ex F S1 S2 S3 B6 B7;have Zy := T9;refine aa1 (fun Zg => ?_) (fun Zg => ?_)
 ·refine au 2 ?_;refine ak (aA rfl (cells := eQ ar ar ar) Kr) ?_;refine aU ?_;intro _ D cg;have ex := aI.one cg;clear cg;replace F := F.bD ex;replace B7 := D; clear D;replace B7 := B7.congr (cs' := eQ ar ar ar) rfl;refine aU ?_;refine aa4 rfl rfl B7 rfl ?_;have hno : ¬ dn x.pk := fun o => Zg (by rw [(T9.1 o).1]; rfl);obtain ⟨hz, _⟩ := T9.2 hno;subst hz;have e1 : nH (ts.getD 0 []) seed inf k x = (nJ.zero, 3) := by unfold nH; rw [if_pos (.inl hno)]
  rw [e1]; exact ⟨_, rfl, r9.zero _ _, F.bF So⟩
 have okp : dn x.pk := Classical.byContradiction fun hno => by have := (T9.2 hno).1; omega
 have J9 := Fb.kk (S := [Zb, Za]) (Bn.fb ⟨(T9.1 okp).2, n9⟩) So;refine au 5 ?_;refine ak (ah rfl Tn.u rfl (S1.get (i := 0) Zk)) ?_;refine aU ?_;have X4 := F.bF So;refine aB func129 rfl (rm _ (HJ.ext X4) (Bs.ext HY X4)) ?_;rintro e _ ⟨Zl, Zm, c11, _, rfl, YW, _, ex⟩;obtain ⟨F,S2,S3,B6,B7,J9⟩ := iz ex F S2 S3 B6 B7 J9;refine aa1 (fun Zh => ?_) (fun Zh => ?_)
 ·refine au 2 ?_;refine ak (aA rfl (cells := eQ ar ar ar) Kr) ?_;refine aU ?_;intro _ D cg;have ex := aI.one cg;clear cg;replace F := F.bD ex;replace B7 := D; clear D;replace B7 := B7.congr (cs' := eQ ar ar ar) rfl;refine aU ?_;refine aa4 rfl rfl B7 rfl ?_;have hno : ¬ lT (ts.getD 0 []) x.way := fun o => Zh (by rw [(YW.1 o).1]; rfl);obtain ⟨hz, _⟩ := YW.2 hno;subst hz;have e1 : nH (ts.getD 0 []) seed inf k x = (nJ.zero, 3) := by unfold nH; rw [if_pos (.inr hno)]
  rw [e1]; exact ⟨_, rfl, r9.zero _ _, F.bF So⟩
 refine aU ?_;have oks : lT (ts.getD 0 []) x.way := Classical.byContradiction fun hno => by have := (YW.2 hno).1; omega
 have YV := (YW.1 oks).2;have Zn := YV.1; have Zo := Fy (ts.getD 0 []) x.way;refine aD Kr 10 rfl ?_; intro Zz ex ZA;obtain ⟨F,S2,S3,B6,B7,J9,YV⟩ := iW ex F S2 S3 B6 B7 J9 YV;refine zm [0, 1, 2] ?_;refine bC 3 rfl func131 rfl (ij none 0 0 4 k [] _ (Bs.nil _ _) Om Om Om) ?_;rintro e _ ⟨Zp, Zq, rfl, Zr, ex⟩;refine aU ?_;obtain ⟨F,S3,B6,B7,J9,YV⟩ := iz ex F S3 B6 B7 J9 YV;have Zi := Zr.bs; rw [List.nil_append] at Zi;have X7 := F.bF So;refine bC 4 rfl func130 rfl (ri D Zp nd cd (0 + 4) Zq 32 N4 seed _ _ (HD.ext X7) Om (by decide) Zi Om Om) ?_;rintro e _ ⟨Zj, Zs, rfl, ⟨Zc, _⟩, _, ex⟩;obtain ⟨F,S3,B6,B7,J9,YV⟩ := iz ex F S3 B6 B7 J9 YV;replace Zc : Bs _ Zj 32 (RW seed k) := Zc;refine zm [5, 6, 7, 8, 9] ?_;have X8 := F.bF So; have y8 := F.size; have ZB := B6.lt; have ZC := B7.lt;refine aB func57 rfl (CP i.A Zj I Zl tY i.n i.c 32 Zs ni ci Zm c11 x.pk.init (RW seed k) inf (mc (ts.getD 0 []) x.way) _ wF (Bs.ext q X8) Om Zc Om (HI.ext X8) Om YV Om) ?_;rintro e _ ⟨YX, YY, YZ, Y0, Y2, Y3, rfl, Zt, Zu, _, _, Zd, t14, ex⟩;obtain ⟨F,B7,J9⟩ := bh ex F B7 J9;have Ze := Fb.kk (S := [Zb, Za]) (Bn.fb ⟨Zt, t14.1⟩) So; have Zf := Fb.kk (S := [Zb, Za]) (Bn.fb ⟨Zu, t14.2⟩) So;refine au 15 ?_;refine ak (aA rfl (cells := gS ⟨YX, YY, YZ⟩ ⟨Y0, Y2, Y3⟩) Kr) ?_;refine ak (aA rfl (cells := eQ ⟨A9, k9, c9⟩ ⟨YX, YY, YZ⟩ ⟨Y0, Y2, Y3⟩) Kr) ?_;refine aU ?_;intro _ D cg;have ex := aI.one cg;clear cg;obtain ⟨F,J9,Ze,Zf⟩ := j6 ex F J9 Ze Zf;replace B7 := D; clear D;replace B7 := B7.congr (cs' := eQ ⟨A9, k9, c9⟩ ⟨YX, YY, YZ⟩ ⟨Y0, Y2, Y3⟩) rfl;refine aU ?_;refine aa4 rfl rfl B7 rfl ?_;have e1 : nH (ts.getD 0 []) seed inf k x = (⟨dW x.pk, (gP (ts.getD 0 []) seed inf k x).1, (gP (ts.getD 0 []) seed inf k x).2.1⟩, (gP (ts.getD 0 []) seed inf k x).2.2) := by unfold nH; rw [if_neg (fun h => h.elim (fun h => h okp) (fun h => h oks))]
 rw [e1]; exact ⟨_, rfl, ⟨⟨A9, k9, c9⟩, ⟨YX, YY, YZ⟩, ⟨Y0, Y2, Y3⟩, rfl, J9.out.mono Om, Ze.out.mono Om, Zf.out.mono Om, Zd⟩, F.bF So⟩
end Go.Proofs.YtgfafidlkldeaaaGreat
