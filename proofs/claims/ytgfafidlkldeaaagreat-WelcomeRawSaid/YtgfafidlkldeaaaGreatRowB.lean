/- From a row's reading of a slice of byte slices to the walk's word for it. No conditions beyond the row's own. -/
import Derived.Test.YtgfafidlkldeaaaGreatKdfB
import Derived.Test.YtgfafidlkldeaaaGreatAu
import Derived.Test.YtgfafidlkldeaaaGreatVc7
import Derived.Test.YtgfafidlkldeaaaGreatRow
set_option linter.unusedVariables false
set_option linter.unusedSimpArgs false
set_option maxHeartbeats 4000000
set_option maxRecDepth 4000
namespace Go.Proofs.YtgfafidlkldeaaaGreat
section
open Go.RowKit Tryz
attribute [local irreducible] Y Ef WL WC WK WQ WM cE
theorem oY (A B : Oa) (n c m d : Nat) (xs ys : Lb) (w : World) (HA : Bs w A n xs) (hn : n ≤ 35184372088832) (HB : Bs w B m ys) (hm : m ≤ 35184372088000) :
  Ct 99 #[.slice A n c, .slice B m d] w fun e w' => ∃ A' c', e = .returned (.slice A' 32 c') ∧ Bs w' A' 32 (Mac.tag xs ys) ∧ Ext w w' := by
 have E := Ext.refl w
 refine ai 9 func99 rfl rfl rfl rfl ?_
 intro _ hret
 refine aU ?_
 refine ag (aK (z := .slice none 0 0) Tn.u Kr rfl rfl rfl rfl rfl) rfl ?_
 rintro _ _ ⟨_, rfl, B1, _, ex⟩
 obtain ⟨HA,HB,E⟩ := bC ex HA HB E
 have S1 := kQ B1 HB
 refine aB func112 rfl (uI A _ n c 1 1 xs _ _ HA hn S1 Om (by simp [HB.1]; omega)) ?_
 rintro e _ ⟨_, rfl, _, B2, ex⟩
 replace E := E.ext ex
 have H2 := bw B2 (Mac.dN _ _)
 refine aU ?_
 refine hret rfl ?_
 exact ⟨_, _, rfl, by simpa using H2, E⟩
theorem sR (A B : Oa) (n c m d k : Nat) (s : ByteArray) (ks cs : Lb) (w : World) (HA : Bs w A n ks) (hn : n ≤ 35184372088832) (hs : s.size ≤ 1048576) (HB : Bs w B m cs) (hm : m ≤ 1048576) (hk : k ≤ 8160) :
  Ct 130 #[.slice A n c, .string s, .slice B m d, .int .i64 (k : Int)] w fun e w' => ∃ A' c', e = .returned (.tuple #[.slice A' k c', .int .u8 0]) ∧ Bs w' A' k (Kdf.label ks s.data.toList cs k) ∧ k ≤ c' ∧ Ext w w' := by
 have E := Ext.refl w
 have Vy := Wire.ck (8 + s.size); have Vz := Wire.ck m
 have hcs : (⟨#[77, 76, 83, 32, 49, 46, 48, 32]⟩ : ByteArray).size = 8 := rfl
 refine bu 43 func130 rfl rfl rfl rfl ?_
 intro _ hret
 refine au 23 ?_
 refine ak (Cn rfl Tn.u) ?_
 refine aU ?_
 refine aB func131 rfl (gT none 0 0 2 k [] _ (Bs.nil _ _) Om Om Om) ?_
 rintro e _ ⟨A1, c1, rfl, R1, ex⟩
 obtain ⟨HA,HB,E⟩ := bC ex HA HB E
 have H1 := R1.bs
 refine au 8 ?_
 refine ak (qi rfl rfl Om) ?_
 refine ag (nJ rfl Tn.u Tn.u Tn.u) rfl ?_
 rintro _ _ ⟨_, c2, rfl, H2, _, ex⟩
 obtain ⟨HA,HB,E,H1⟩ := bO ex HA HB E H1
 rw [tG, dV] at H2
 refine aB func162 rfl (dz A1 _ _ c1 _ c2 _ _ _ H1 Om (by rw [dV]; exact H2) (by rw [dV]; omega)) ?_
 rintro e _ ⟨A3, k3, c3, rfl, R3, Vw, ex⟩
 obtain ⟨HA,HB,E⟩ := bC ex HA HB E
 have H3 := R3.bs; rw [dV] at Vw
 refine aU ?_
 refine aB func162 rfl (dz A3 B k3 c3 m d _ cs _ H3 Om HB Om) ?_
 rintro e _ ⟨A4, k4, c4, rfl, R4, _, ex⟩
 obtain ⟨HA,E⟩ := ba ex HA E
 have H4 := R4.bs
 refine aU ?_
 refine aB func191 rfl (qq A A4 n c k4 c4 k ks _ _ HA hn H4 Om hk) ?_
 rintro e _ ⟨A5, c5, rfl, H5, Vx, ex⟩
 replace E := E.ext ex
 refine aU ?_
 refine hret rfl rfl ?_
 exact ⟨A5, c5, rfl, H5, Vx, E⟩
theorem ia (A : Oa) (n c : Nat) (s : ByteArray) (ks : Lb) (w : World) (HA : Bs w A n ks) (hn : n ≤ 35184372088832) (hs : s.size ≤ 1048576) :
  Ct 67 #[.slice A n c, .string s] w fun e w' => ∃ A' c', e = .returned (.slice A' 32 c') ∧ Bs w' A' 32 (Kdf.label ks s.data.toList [] 32) ∧ Ext w w' := by
 refine ai 14 func67 rfl rfl rfl rfl ?_
 intro _ hret
 refine aU ?_
 refine aB func130 rfl (sR A none n c 0 0 32 s ks [] _ HA hn hs (Bs.nil _ _) Om Om) ?_
 rintro e _ ⟨A1, c1, rfl, H1, _, ex⟩
 refine aU ?_
 refine hret rfl ?_
 exact ⟨A1, c1, rfl, H1, ex⟩
theorem IX (B : Oa) (m d : Nat) (s : ByteArray) (cs : Lb) (w : World) (HB : Bs w B m cs) (hs : s.size ≤ 1048576) (hm : m ≤ 1048576) :
  Ct 86 #[.string s, .slice B m d] w fun e w' => ∃ A' c', e = .returned (.slice A' 32 c') ∧ Bs w' A' 32 (Sha.sum (Wire.vec s.data.toList ++ Wire.vec cs)) ∧ Ext w w' := by
 have E := Ext.refl w
 have Vw := Wire.ck s.size; have Vx := Wire.ck m
 refine ai 12 func86 rfl rfl rfl rfl ?_
 intro _ hret
 refine aU ?_
 refine ag (nJ rfl Tn.u Tn.u Tn.u) rfl ?_
 rintro _ _ ⟨_, c2, rfl, H2, _, ex⟩
 obtain ⟨HB,E⟩ := ba ex HB E
 refine aB func162 rfl (dz none _ 0 0 _ c2 [] _ _ (Bs.nil _ _) Om H2 Om) ?_
 rintro e _ ⟨A3, k3, c3, rfl, R3, _, ex⟩
 obtain ⟨HB,E⟩ := ba ex HB E
 have H3 := R3.bs
 refine aU ?_
 refine aB func162 rfl (dz A3 B k3 c3 m d _ cs _ H3 Om HB Om) ?_
 rintro e _ ⟨_, _, _, rfl, R4, _, ex⟩
 refine aU ?_
 replace E := E.ext ex
 have H4 := R4.bs
 refine ag (aK (z := .slice none 0 0) Tn.u Kr rfl rfl rfl rfl rfl) rfl ?_
 rintro _ _ ⟨_, rfl, B5, _, ex⟩
 obtain ⟨E,H4⟩ := ba ex E H4
 have S5 := kQ B5 H4
 refine aB func161 rfl (tN _ 1 1 _ _ S5 Om (by simp only [List.flatten_cons, List.flatten_nil, List.append_nil]; rw [H4.1]; omega)) ?_
 rintro e _ ⟨_, rfl, _, B6, ex⟩
 replace E := E.ext ex
 have H6 := bw B6 (Sha.bP _)
 refine aU ?_
 refine hret rfl ?_
 exact ⟨_, _, rfl, by simpa using H6, E⟩
theorem fy (A B : Oa) (n c m d k : Nat) (s : ByteArray) (ks cs : Lb) (w : World) (HA : Bs w A n ks) (hn : n ≤ 35184372088832) (hs : s.size ≤ 1048576) (HB : Bs w B m cs) (hm : m ≤ 1048576) (hk : k ≤ 8160) :
  Ct 47 #[.slice A n c, .string s, .slice B m d, .int .i64 (k : Int)] w fun e w' => ∃ A' c', e = .returned (.slice A' k c') ∧ Bs w' A' k (Kdf.label ks s.data.toList cs k) ∧ Ext w w' := by
 have E := Ext.refl w
 have VC := Wire.ck (8 + s.size); have VD := Wire.ck m
 have hcs : (⟨#[77, 76, 83, 32, 49, 46, 48, 32]⟩ : ByteArray).size = 8 := rfl
 refine ai 26 func47 rfl rfl rfl rfl ?_
 intro _ hret
 have Vw := HA; have Vx := HB
 refine aU ?_
 refine aB func56 rfl (mH 2 k _ Om Om) ?_
 rintro e _ ⟨_, _, rfl, R1, ex⟩
 replace E := E.ext ex
 refine au 8 ?_
 refine ak (qi rfl rfl Om) ?_
 refine ag (nJ rfl Tn.u Tn.u Tn.u) rfl ?_
 rintro _ _ ⟨_, c2, rfl, H2, _, ex⟩
 obtain ⟨E,R1⟩ := ba ex E R1
 rw [tG, dV] at H2
 refine aB func54 rfl (et _ _ c2 _ _ (by rw [dV]; exact H2) (by rw [dV]; omega)) ?_
 rintro e _ ⟨_, _, _, rfl, R3, Vy, ex⟩
 refine aU ?_
 obtain ⟨E,R1⟩ := ba ex E R1
 have H3 := R3.bs; have Vz := E.size; rw [dV] at Vy
 refine ag (bd rfl rfl cB R1 H3.2 (by rw [List.length_map, H3.1]) aM Om Om Vz) rfl ?_
 rintro _ _ ⟨_, _, rfl, R4, be, gr, hl⟩
 have E4 := E.trans be; have R5 := R4.cat
 refine aU ?_
 refine aB func54 rfl (et B m d cs _ (Vx.wk E4) Om) ?_
 rintro e _ ⟨_, _, _, rfl, R6, _, ex⟩
 refine aU ?_
 have R7 := R5.ext ex; have H6 := R6.bs; have E5 := E4.ext ex; have VA := E5.size
 refine ag (bd rfl rfl cB R7 H6.2 (by rw [List.length_map, H6.1]) aM Om Om VA) rfl ?_
 rintro _ _ ⟨A8, c8, rfl, R8, be, gr, hl⟩
 have E6 := E5.trans be; have H9 := R8.cat.bs
 refine aU ?_
 refine aB func116 rfl (rE A A8 n c _ c8 k ks _ _ (Vw.wk E6) hn H9 Om hk) ?_
 rintro e _ ⟨A9, c9, rfl, VB, ex⟩
 have E7 := E6.ext ex
 refine aU ?_
 refine hret rfl ?_
 exact ⟨A9, c9, rfl, VB, E7⟩
theorem yE (B : Oa) (m d : Nat) (s : ByteArray) (cs : Lb) (w : World) (HB : Bs w B m cs) (hs : s.size ≤ 1048576) (hm : m ≤ 1048576) :
  Ct 34 #[.string s, .slice B m d] w fun e w' => ∃ A' c', e = .returned (.slice A' 32 c') ∧ Bs w' A' 32 (Sha.sum (Wire.vec s.data.toList ++ Wire.vec cs)) ∧ Ext w w' := by
 have E := Ext.refl w
 have Vy := Wire.ck s.size; have Vz := Wire.ck m
 refine ai 12 func34 rfl rfl rfl rfl ?_
 intro _ hret
 refine aU ?_
 refine ag (nJ rfl Tn.u Tn.u Tn.u) rfl ?_
 rintro _ _ ⟨_, c2, rfl, H2, _, ex⟩
 obtain ⟨HB,E⟩ := ba ex HB E
 have Vw := E.size
 refine aB func54 rfl (et _ _ c2 _ _ H2 Om) ?_
 rintro e _ ⟨_, _, _, rfl, R3, _, ex⟩
 obtain ⟨HB,E⟩ := ba ex HB E
 replace R3 := R3.lower Vw
 refine aU ?_
 refine aB func54 rfl (et B m d cs _ HB Om) ?_
 rintro e _ ⟨_, _, _, rfl, R4, _, ex⟩
 refine aU ?_
 obtain ⟨E,R3⟩ := ba ex E R3
 have H4 := R4.bs; have Vx := E.size
 refine ag (bd rfl rfl cB R3 H4.2 (by rw [List.length_map, H4.1]) aM Om Om Vx) rfl ?_
 rintro _ _ ⟨A5, c5, rfl, R5, be, _, _⟩
 have E5 := E.trans be; have H5 := R5.cat.bs
 refine aB func52 rfl (eY A5 _ c5 _ _ H5 Om) ?_
 rintro e _ ⟨_, _, rfl, O6, ex⟩
 have E6 := E5.ext ex; have H6 := O6.bs
 refine aU ?_
 refine hret rfl ?_
 exact ⟨_, _, rfl, H6, E6⟩
end
section
open Go.RowKit Tryz
attribute [local irreducible] Y Ef WL WC WK WQ WM cE WN WF dc
structure Ctx where
 grp : List UInt8
 ep : Nat
 tree : List UInt8
 trans : List UInt8
def dv (c : Ctx) : List UInt8 := Wire.be 2 1 ++ Wire.be 2 1 ++ Wire.vec c.grp ++ Wire.be 8 c.ep ++ Wire.vec c.tree ++ Wire.vec c.trans ++ [0]
def HQ (A1 A2 A3 : Oa) (n1 c1 n2 c2 n3 c3 e : Nat) : Array Value := #[.slice A1 n1 c1, .int .u64 (e : Int), .slice A2 n2 c2, .slice A3 n3 c3]
def gY (w : World) (cs : Array Value) (c : Ctx) : Prop := ∃ A1 A2 A3 n1 c1 n2 c2 n3 c3, cs = HQ A1 A2 A3 n1 c1 n2 c2 n3 c3 c.ep ∧ Bs w A1 n1 c.grp ∧ Bs w A2 n2 c.tree ∧ Bs w A3 n3 c.trans
theorem gY.ext {w w' : World} {cs : Array Value} {c : Ctx} (h : gY w cs c) (k : Ext w w') : gY w' cs c := by
 obtain ⟨A1, A2, A3, n1, c1, n2, c2, n3, c3, h0, h1, h2, h3⟩ := h
 exact ⟨A1, A2, A3, n1, c1, n2, c2, n3, c3, h0, h1.ext k, h2.ext k, h3.ext k⟩
theorem gY.size {w : World} {cs : Array Value} {c : Ctx} (h : gY w cs c) : cs.size = 4 := by
 obtain ⟨A1, A2, A3, n1, c1, n2, c2, n3, c3, rfl, _⟩ := h; rfl
def Ctx.Small (c : Ctx) : Prop := c.grp.length ≤ 200 ∧ c.tree.length ≤ 200 ∧ c.trans.length ≤ 200 ∧ c.ep < 18446744073709551616
theorem jX {c : Ctx} (h : c.Small) : (dv c).length ≤ 700 := by
 obtain ⟨h1, h2, h3, h4⟩ := h
 have := Wire.ck c.grp.length; have := Wire.ck c.tree.length; have := Wire.ck c.trans.length
 unfold dv
 simp only [List.length_append, Wire.lD, Wire.mC, List.length_cons, List.length_nil]
 omega
theorem ko (A : Oa) (n c s x : Nat) (xs : Lb) (w : World) (HA : Bs w A n xs) (hn : n ≤ 70368744177664) (hs : s = 1 ∨ s = 2 ∨ s = 4 ∨ s = 8) (hx : x < 18446744073709551616) :
  Ct 163 #[.slice A n c, .int .i64 (s : Int), .int .u64 (x : Int)] w fun e w' => ∃ A' c', e = .returned (.slice A' (n + s) c') ∧ Row w' w.heap.size 5 A' (n + s) c' ((xs ++ Wire.be s x).map bv) ∧ Ext w w' := by
 refine ai 11 func163 rfl rfl rfl rfl ?_
 intro _ hret
 refine aU ?_
 refine aB func131 rfl (gT A n c s x xs _ HA hn hs hx) ?_
 rintro e _ ⟨A1, c1, rfl, R1, ex⟩
 refine aU ?_
 refine hret rfl ?_
 exact ⟨A1, c1, rfl, R1, ex⟩
theorem gk (A B : Oa) (n c m d : Nat) (xs ys : Lb) (w : World) (HA : Bs w A n xs) (hn : n ≤ 35184372088832) (HB : Bs w B m ys) (hm : m < 1073741824) :
  Ct 87 #[.slice A n c, .slice B m d] w fun e w' => ∃ A' k c', e = .returned (.slice A' k c') ∧ Row w' w.heap.size 5 A' k c' ((xs ++ Wire.vec ys).map bv) ∧ k = n + (Wire.iM m + m) ∧ Ext w w' := by
 refine ai 8 func87 rfl rfl rfl rfl ?_
 intro _ hret
 refine aU ?_
 refine aB func162 rfl (dz A B n c m d xs ys _ HA hn HB hm) ?_
 rintro e _ ⟨A1, k1, c1, rfl, R1, hk, ex⟩
 refine aU ?_
 refine hret rfl ?_
 exact ⟨A1, k1, c1, rfl, R1, hk, ex⟩
theorem fP (A B : Oa) (n c m d : Nat) (xs ys : Lb) (w : World) (HA : Bs w A n xs) (hn : n ≤ 35184372088832) (HB : Bs w B m ys) (hm : m ≤ 35184372088832) :
  Ct 80 #[.slice A n c, .slice B m d] w fun e w' => ∃ A' c', e = .returned (.slice A' (n + m) c') ∧ Row w' w.heap.size 5 A' (n + m) c' ((xs ++ ys).map bv) ∧ Ext w w' := by
 refine ai 10 func80 rfl rfl rfl rfl ?_
 intro _ hret
 refine aU ?_
 refine ag (aK (z := .int .u8 0) Tn.u Kr rfl rfl rfl rfl rfl) rfl ?_
 rintro _ w1 ⟨g1, rfl, B1, Vw, ex⟩
 have E1 := ex; have R1 : Row w1 w.heap.size 5 (some ⟨g1, 0, none⟩) 0 0 [] := Row.new B1 Vw rfl (by unfold maxLen; omega)
 refine aU ?_
 refine ag (gG rfl rfl cB R1 (HA.ext E1).2 (by rw [List.length_map, HA.1]) aM Om Om E1.size) rfl ?_
 rintro _ _ ⟨_, _, rfl, R2, be, gr, hl⟩
 have E2 := E1.trans be
 refine aU ?_
 refine ag (bd rfl rfl cB R2 (HB.ext E2).2 (by rw [List.length_map, HB.1]) aM Om Om E2.size) rfl ?_
 rintro _ _ ⟨A3, c3, rfl, R3, be, gr, hl⟩
 have E3 := E2.trans be
 refine aU ?_
 refine hret rfl ?_
 exact ⟨A3, c3, rfl, R3.cat, E3⟩
theorem ku (A B C : Oa) (n c m d k f : Nat) (xs ys zs : Lb) (w : World) (HA : Bs w A n xs) (hn : n ≤ 1000000) (HB : Bs w B m ys) (hm : m ≤ 1000000) (HC : Bs w C k zs) (hk : k ≤ 1000000) :
  Ct 122 #[.slice A n c, .slice B m d, .slice C k f] w fun e w' => ∃ A' c', e = .returned (.slice A' (n + m + k) c') ∧ Row w' w.heap.size 5 A' (n + m + k) c' ((xs ++ ys ++ zs).map bv) ∧ Ext w w' := by
 refine ai 12 func122 rfl rfl rfl rfl ?_
 intro _ hret
 refine aU ?_
 refine aB func80 rfl (fP A B n c m d xs ys _ HA Om HB Om) ?_
 rintro e _ ⟨A1, c1, rfl, R1, ex⟩
 replace HC := HC.ext ex
 have E1 := ex
 refine aU ?_
 refine aB func80 rfl (fP A1 C _ c1 k f _ zs _ R1.bs Om HC Om) ?_
 rintro e _ ⟨A2, c2, rfl, R2, ex⟩
 have E2 := E1.ext ex
 refine aU ?_
 refine hret rfl ?_
 exact ⟨A2, c2, rfl, R2.lower E1.size, E2⟩
theorem lL (x : Nat) (w : World) (hx : x < 18446744073709551616) :
  Ct 158 #[.int .u64 (x : Int)] w fun e w' => ∃ A' c', e = .returned (.slice A' 2 c') ∧ Row w' w.heap.size 5 A' 2 c' ((Wire.be 2 x).map bv) ∧ Ext w w' := by
 refine ai 5 func158 rfl rfl rfl rfl ?_
 intro _ hret
 refine aU ?_
 refine aB func56 rfl (mH 2 x _ Om hx) ?_
 rintro e _ ⟨A1, c1, rfl, R1, ex⟩
 refine aU ?_
 refine hret rfl ?_
 exact ⟨A1, c1, rfl, R1, ex⟩
theorem je (B : Oa) (m d : Nat) (ys : Lb) (w : World) (HB : Bs w B m ys) (hm : m < 1073741824) :
  Ct 82 #[.slice B m d] w fun e w' => ∃ A' k c', e = .returned (.slice A' k c') ∧ Row w' w.heap.size 5 A' k c' ((Wire.vec ys).map bv) ∧ k = Wire.iM m + m ∧ Ext w w' := by
 refine ai 5 func82 rfl rfl rfl rfl ?_
 intro _ hret
 refine aU ?_
 refine aB func54 rfl (et B m d ys _ HB hm) ?_
 rintro e _ ⟨A1, k1, c1, rfl, R1, hk, ex⟩
 refine aU ?_
 refine hret rfl ?_
 exact ⟨A1, k1, c1, rfl, R1, hk, ex⟩
theorem rP (cs : Array Value) (x : Ctx) (w : World) (H : gY w cs x) (hs : x.Small) :
  Ct 101 #[.agg cs] w fun e w' => ∃ A' k c', e = .returned (.slice A' k c') ∧ Row w' w.heap.size 5 A' k c' ((dv x).map bv) ∧ k ≤ 700 ∧ Ext w w' := by
 have hlen := jX hs
 obtain ⟨A1, A2, A3, n1, c1, n2, c2, n3, c3, rfl, H1, H2, H3⟩ := H
 obtain ⟨s1, s2, s3, s4⟩ := hs
 have E := Ext.refl w
 have VD := H1.1; have VE := H2.1; have VF := H3.1
 have z1 := Wire.ck n1; have z2 := Wire.ck n2; have z3 := Wire.ck n3
 refine ai 21 func101 rfl rfl rfl rfl ?_
 intro _ hret
 refine aU ?_
 intro w1 g1 (B1 : ao _ _ _ (HQ A1 A2 A3 n1 c1 n2 c2 n3 c3 x.ep)) VG ex
 obtain ⟨E,H1,H2,H3⟩ := bO ex E H1 H2 H3
 refine aU ?_
 refine aC Kr 9 rfl ?_; intro VH ex VI
 obtain ⟨E,H1,H2,H3,B1⟩ := er ex E H1 H2 H3 B1
 refine zm [2, 3, 5, 6] ?_
 refine bD 0 rfl func163 rfl (ko none 0 0 2 1 [] _ (Bs.nil _ _) Om Om Om) ?_
 rintro e _ ⟨A4, c4, rfl, R4, ex⟩
 obtain ⟨E,H1,H2,H3,B1⟩ := er ex E H1 H2 H3 B1
 refine aU ?_
 refine bD 1 rfl func163 rfl (ko A4 _ c4 2 1 _ _ R4.bs Om Om Om) ?_
 rintro e _ ⟨A5, c5, rfl, R5, ex⟩
 obtain ⟨E,H1,H2,H3,B1⟩ := er ex E H1 H2 H3 B1
 refine aU ?_
 refine bD 4 rfl func87 rfl (gk A5 A1 _ c5 n1 c1 _ _ _ R5.bs Om H1 Om) ?_
 rintro e _ ⟨A6, k6, c6, rfl, R6, _, ex⟩
 obtain ⟨E,H2,H3,B1⟩ := bO ex E H2 H3 B1
 refine aU ?_
 refine bD 7 rfl func163 rfl (ko A6 k6 c6 8 x.ep _ _ R6.bs Om Om Om) ?_
 rintro e _ ⟨A7, c7, rfl, R7, ex⟩
 obtain ⟨E,H2,H3,B1⟩ := bO ex E H2 H3 B1
 refine zm [8] ?_
 refine aC Kr 10 rfl ?_; intro VJ ex VK
 obtain ⟨E,H2,H3,B1,R7⟩ := er ex E H2 H3 B1 R7
 refine zm [0, 1, 2, 4, 5] ?_
 refine ki 3 7 Kr ?_ ?_
 ·skip
  refine gH rfl func87 rfl rfl rfl (gk A7 A2 _ c7 n2 c2 _ _ _ R7.bs Om H2 Om) rfl ?_
  rintro e w6 ⟨A8, k8, c8, rfl, R8, VC, ex⟩
  obtain ⟨E,H3⟩ := ba ex E H3
  refine aU ?_
  refine ki 6 7 Kr ?_ ?_
  ·skip
   have Vx := E
   refine gH rfl func87 rfl rfl rfl (gk A8 A3 k8 c8 n3 c3 _ _ _ R8.bs Om H3 Om) rfl ?_
   rintro e w7 ⟨A9, k9, c9, rfl, R9, VA, ex⟩
   refine aU ?_
   replace E := E.ext ex
   replace R9 := R9.lower Vx.size
   refine bk 7 Kr ?_; refine bH rfl (aK (z := .int .u8 0) Tn.u Kr rfl rfl rfl rfl rfl) rfl ?_
   rintro _ w8 ⟨g8, rfl, D8, VB, ex⟩
   refine ⟨.inr ex, ?_⟩
   obtain ⟨E,R9⟩ := ba ex E R9
   refine bk 8 Kr ?_; refine bH rfl (bd rfl rfl cB R9 (At.gX (vs := [(0 : UInt8)].map bv) (D8.congr (by rfl))) rfl aM Om Om E.size) rfl ?_
   rintro _ w9 ⟨Vy, c10, rfl, Vz, be, gr, hl⟩
   refine ⟨.inl rfl, ?_⟩
   have E9 := E.trans be; have Vw := Vz.cat
   refine zm [9] ?_
   refine hret rfl ?_
   have HF := Vw.bs
   have e : ([] ++ Wire.be 2 1 ++ Wire.be 2 1 ++ Wire.vec x.grp ++ Wire.be 8 x.ep ++ Wire.vec x.tree ++ Wire.vec x.trans ++ [0]) = dv x := by unfold dv; simp
   rw [e] at HF
   have hf := HF.1
   exact ⟨Vy, _, c10, rfl, Vw.congr rfl (by rw [e]), by omega, E9⟩
  ·skip
   refine bH rfl (aK (z := .int .u8 0) Tn.u Kr rfl rfl rfl rfl rfl) rfl ?_
   rintro _ w8 ⟨g8, rfl, D8, VB, ex⟩
   refine ⟨.inr ex, ?_⟩
   obtain ⟨E,H3,R8⟩ := bC ex E H3 R8
   have Vx := E
   refine bD 6 rfl func87 rfl (gk A8 A3 k8 c8 n3 c3 _ _ _ R8.bs Om H3 Om) ?_
   rintro e w7 ⟨A9, k9, c9, rfl, R9, VA, ex⟩
   refine aU ?_
   obtain ⟨E,D8⟩ := ba ex E D8
   replace R9 := R9.lower Vx.size
   refine bk 8 Kr ?_; refine bH rfl (bd rfl rfl cB R9 (At.gX (vs := [(0 : UInt8)].map bv) (D8.congr (by rfl))) rfl aM Om Om E.size) rfl ?_
   rintro _ w9 ⟨Vy, c10, rfl, Vz, be, gr, hl⟩
   refine ⟨.inl rfl, ?_⟩
   have E9 := E.trans be; have Vw := Vz.cat
   refine zm [9] ?_
   refine hret rfl ?_
   have HF := Vw.bs
   have e : ([] ++ Wire.be 2 1 ++ Wire.be 2 1 ++ Wire.vec x.grp ++ Wire.be 8 x.ep ++ Wire.vec x.tree ++ Wire.vec x.trans ++ [0]) = dv x := by unfold dv; simp
   rw [e] at HF
   have hf := HF.1
   exact ⟨Vy, _, c10, rfl, Vw.congr rfl (by rw [e]), by omega, E9⟩
 ·skip
  refine bH rfl (aK (z := .int .u8 0) Tn.u Kr rfl rfl rfl rfl rfl) rfl ?_
  rintro _ w8 ⟨g8, rfl, D8, VB, ex⟩
  refine ⟨.inr ex, ?_⟩
  obtain ⟨E,H2,H3,R7⟩ := bO ex E H2 H3 R7
  refine bD 3 rfl func87 rfl (gk A7 A2 _ c7 n2 c2 _ _ _ R7.bs Om H2 Om) ?_
  rintro e w6 ⟨A8, k8, c8, rfl, R8, VC, ex⟩
  obtain ⟨E,H3,D8⟩ := bC ex E H3 D8
  refine aU ?_
  have Vx := E
  refine bD 6 rfl func87 rfl (gk A8 A3 k8 c8 n3 c3 _ _ _ R8.bs Om H3 Om) ?_
  rintro e w7 ⟨A9, k9, c9, rfl, R9, VA, ex⟩
  refine aU ?_
  obtain ⟨E,D8⟩ := ba ex E D8
  replace R9 := R9.lower Vx.size
  refine bk 8 Kr ?_; refine bH rfl (bd rfl rfl cB R9 (At.gX (vs := [(0 : UInt8)].map bv) (D8.congr (by rfl))) rfl aM Om Om E.size) rfl ?_
  rintro _ w9 ⟨Vy, c10, rfl, Vz, be, gr, hl⟩
  refine ⟨.inl rfl, ?_⟩
  have E9 := E.trans be; have Vw := Vz.cat
  refine zm [9] ?_
  refine hret rfl ?_
  have HF := Vw.bs
  have e : ([] ++ Wire.be 2 1 ++ Wire.be 2 1 ++ Wire.vec x.grp ++ Wire.be 8 x.ep ++ Wire.vec x.tree ++ Wire.vec x.trans ++ [0]) = dv x := by unfold dv; simp
  rw [e] at HF
  have hf := HF.1
  exact ⟨Vy, _, c10, rfl, Vw.congr rfl (by rw [e]), by omega, E9⟩
theorem uA (cs : Array Value) (x : Ctx) (w : World) (H : gY w cs x) (hs : x.Small) :
  Ct 101 #[.agg cs] w fun e w' => ∃ A' k c', e = .returned (.slice A' k c') ∧ Bs w' A' k (dv x) ∧ k ≤ 700 ∧ Ext w w' :=
 (rP cs x w H hs).mono fun _ _ ⟨A', k, c', h1, h2, h3, h4⟩ => ⟨A', k, c', h1, h2.bs, h3, h4⟩
theorem rQ (cs : Array Value) (x : Ctx) (w : World) (H : gY w cs x) (hs : x.Small) :
  Ct 119 #[.agg cs] w fun e w' => ∃ A' k c', e = .returned (.slice A' k c') ∧ Row w' w.heap.size 5 A' k c' ((dv x).map bv) ∧ k ≤ 700 ∧ Ext w w' := by
 have hlen := jX hs
 obtain ⟨A1, A2, A3, n1, c1, n2, c2, n3, c3, rfl, H1, H2, H3⟩ := H
 obtain ⟨s1, s2, s3, s4⟩ := hs
 have E := Ext.refl w
 have VM := H1.1; have VN := H2.1; have VO := H3.1
 have z1 := Wire.ck n1; have z2 := Wire.ck n2; have z3 := Wire.ck n3
 refine ai 22 func119 rfl rfl rfl rfl ?_
 intro _ hret
 refine aU ?_
 intro w1 g1 (B1 : ao _ _ _ (HQ A1 A2 A3 n1 c1 n2 c2 n3 c3 x.ep)) VP ex
 obtain ⟨E,H1,H2,H3⟩ := bO ex E H1 H2 H3
 refine aU ?_
 refine dH Kr 20 rfl ?_; intro VA ex VQ
 obtain ⟨E,H1,H2,H3,B1⟩ := er ex E H1 H2 H3 B1
 have VB := B1
 have X0 := Ext.refl VA
 refine zm [2, 3, 6, 7, 10, 11, 13, 14] ?_
 refine dJ (fl := [Qt 16 19 5 1 ([.int .u8 0])]) rfl ?_
 refine ll 0 (some 3) func158 ?_
 intro _ ex exb
 obtain ⟨E,H1,H2,H3,X0⟩ := er ex E H1 H2 H3 X0
 refine ⟨_, (lL 1 _ Om), ?_⟩
 rintro e _ ⟨A4, c4, rfl, R4, ex⟩
 refine ⟨_, rfl, ex, ?_⟩
 obtain ⟨E,H1,H2,H3,X0⟩ := er ex E H1 H2 H3 X0
 refine ll 1 (some 4) func158 ?_
 intro _ ex exb
 obtain ⟨E,H1,H2,H3,X0,R4⟩ := iP ex E H1 H2 H3 X0 R4
 refine ⟨_, (lL 1 _ Om), ?_⟩
 rintro e _ ⟨A5, c5, rfl, R5, ex⟩
 refine ⟨_, rfl, ex, ?_⟩
 obtain ⟨E,H1,H2,H3,X0,R4⟩ := iP ex E H1 H2 H3 X0 R4
 refine ll 4 (some 7) func82 ?_
 intro _ ex exb
 obtain ⟨E,H1,H2,H3,X0,R4,R5⟩ := iQ ex E H1 H2 H3 X0 R4 R5
 refine ⟨_, (je A1 n1 c1 _ _ H1 Om), ?_⟩
 rintro e _ ⟨A6, k6, c6, rfl, R6, _, ex⟩
 refine ⟨_, rfl, ex, ?_⟩
 obtain ⟨E,H2,H3,X0,R4,R5⟩ := iP ex E H2 H3 X0 R4 R5
 refine ll 5 (some 8) func122 ?_
 intro _ ex exb
 obtain ⟨E,H2,H3,X0,R4,R5,R6⟩ := iQ ex E H2 H3 X0 R4 R5 R6
 refine ⟨_, (ku A4 A5 A6 2 c4 2 c5 k6 c6 _ _ _ _ R4.bs Om R5.bs Om R6.bs Om), ?_⟩
 rintro e _ ⟨A7, c7, rfl, R7, ex⟩
 refine ⟨_, rfl, ex, ?_⟩
 obtain ⟨E,H2,H3,X0⟩ := bO ex E H2 H3 X0
 refine ll 8 (some 11) func56 ?_
 intro _ ex exb
 obtain ⟨E,H2,H3,X0,R7⟩ := er ex E H2 H3 X0 R7
 refine ⟨_, (mH 8 x.ep _ Om Om), ?_⟩
 rintro e _ ⟨A8, c8, rfl, R8, ex⟩
 refine ⟨_, rfl, ex, ?_⟩
 obtain ⟨E,H2,H3,X0,R7⟩ := er ex E H2 H3 X0 R7
 refine ll 9 (some 12) func80 ?_
 intro _ ex exb
 obtain ⟨E,H2,H3,X0,R7,R8⟩ := iP ex E H2 H3 X0 R7 R8
 refine ⟨_, (fP A7 A8 _ c7 8 c8 _ _ _ R7.bs Om R8.bs Om), ?_⟩
 rintro e _ ⟨A9, c9, rfl, R9, ex⟩
 refine ⟨_, rfl, ex, ?_⟩
 obtain ⟨E,H2,H3,X0⟩ := bO ex E H2 H3 X0
 refine ll 12 (some 15) func82 ?_
 intro _ ex exb
 obtain ⟨E,H2,H3,X0,R9⟩ := er ex E H2 H3 X0 R9
 refine ⟨_, (je A2 n2 c2 _ _ H2 Om), ?_⟩
 rintro e _ ⟨VC, VD, c10, rfl, Vw, _, ex⟩
 refine ⟨_, rfl, ex, ?_⟩
 obtain ⟨E,H3,X0,R9⟩ := bO ex E H3 X0 R9
 refine ll 15 (some 18) func82 ?_
 intro _ ex exb
 obtain ⟨E,H3,X0,R9,Vw⟩ := er ex E H3 X0 R9 Vw
 refine ⟨_, (je A3 n3 c3 _ _ H3 Om), ?_⟩
 rintro e _ ⟨VE, VF, c11, rfl, Vy, _, ex⟩
 refine ⟨_, rfl, ex, ?_⟩
 obtain ⟨E,X0,R9,Vw⟩ := bO ex E X0 R9 Vw
 refine jr ⟨(bQ (wE rfl underlying23 (z := .int .u8 0) Kr rfl rfl rfl rfl rfl) aP), by decide, by decide, (bQ (⟨rfl, by decide⟩) aP), (bQ (bm Kr) aP)⟩ Kr ?_
 rintro _ _ ex ⟨⟨_, rfl, Vz⟩, _⟩
 obtain ⟨E,X0,R9,Vw,Vy⟩ := er ex E X0 R9 Vw Vy
 refine dp 17 Kr ?_
 refine zP rfl func122 rfl rfl rfl (ku VC VE _ VD c10 VF c11 1 1 _ _ _ _ Vw.bs Om Vy.bs Om (bw (xs := [(0 : UInt8)]) (Vz.congr (by rfl)) rfl) Om) rfl ?_
 rintro e _ ⟨VG, VH, rfl, VI, ex⟩
 refine ⟨_, rfl, X0.ext ex, ?_⟩
 obtain ⟨E,X0,R9⟩ := bC ex E X0 R9
 have VJ := E
 refine dp 18 Kr ?_
 refine zP rfl func80 rfl rfl rfl (fP A9 VG _ c9 _ VH _ _ _ R9.bs Om VI.bs Om) rfl ?_
 rintro e _ ⟨VK, VL, rfl, Vx, ex⟩
 refine ⟨_, rfl, X0.ext ex, ?_⟩
 replace E := E.ext ex
 replace Vx := Vx.lower VJ.size
 refine zm [19] ?_
 refine eK Kr ?_
 refine aU ?_
 refine hret rfl ?_
 have e : ((Wire.be 2 1 ++ Wire.be 2 1 ++ Wire.vec x.grp) ++ Wire.be 8 x.ep ++ (Wire.vec x.tree ++ Wire.vec x.trans ++ [0])) = dv x := by unfold dv; simp
 rw [e] at Vx
 have hf := Vx.bs.1
 exact ⟨VK, _, VL, rfl, Vx, by omega, E⟩
end
section
open Go.ChangeShapes Go.WideShapes Go.ChangeAt Go.RowKit
section
variable {H : Type} {enc : TypeId × Value → H} {W : World} {base : Nat} {spare : Nat → Bool} {held : Bool}
theorem oF {α : Type} {Q : Nat → α → Prop} : ∀ n, (∀ i, i < n → ∃ x, Q i x) → ∃ l : List α, l.length = n ∧ ∀ i (h : i < l.length), Q i l[i]
  | 0, _ => ⟨[], rfl, fun i h => by simp at h⟩
  | n + 1, h => by
    obtain ⟨l, hl, hq⟩ := oF n (fun i hi => h i Om)
    obtain ⟨x, hx⟩ := h n Om
    refine ⟨l ++ [x], by simp [hl], fun i hi => ?_⟩
    by_cases hin : i < l.length
    · rw [List.getElem_append_left hin]; exact hq i hin
    · have : i = l.length := by simp at hi; omega
      subst this
      simp only [List.getElem_concat_length]
      rw [hl]; exact hx
end
end
end Go.Proofs.YtgfafidlkldeaaaGreat
