/- A guest's secrets of bytes; the reference's welcomes; the law MsgWelcomes. No conditions: contracts of functions. -/
import Derived.Test.YtgfafidlkldeaaaGreatMuC
import Derived.Test.YtgfafidlkldeaaaGreatPlA
import Derived.Test.YtgfafidlkldeaaaGreatAu
import Derived.Test.YtgfafidlkldeaaaGreatRowC
set_option linter.unusedVariables false
set_option linter.unusedSimpArgs false
set_option maxHeartbeats 4000000
set_option maxRecDepth 4000
namespace Go.Proofs.YtgfafidlkldeaaaGreat
section
open Go.RowKit Tryz
attribute [local irreducible] Y Ef WL WC WK WQ WM cE WN WF dc WJ gJ
open Wire Nd M20
theorem wj.get {A0 : Oa} {n0 : Nat} {b0 : Lb} {cs : Array Value} {s : St} (h : wj A0 n0 b0 cs s) : ∃ A n c at_ e, cs = bz A n c at_ e ∧ wj A0 n0 b0 (bz A n c at_ e) s := by
 have H := h
 obtain ⟨A, n, c, at_, e, b, rfl, _⟩ := h
 exact ⟨A, n, c, at_, e, rfl, H⟩
def xi (A0 : Oa) (n0 : Nat) (b0 : Lb) (cs : Array Value) (x : kb) : Prop := j8 (fun h xs => Sub A0 n0 b0 h.A h.n xs) cs x
theorem xi.at {A0 : Oa} {n0 : Nat} {b0 : Lb} {cs : Array Value} {x : kb} {w : World} (h : xi A0 n0 b0 cs x) (HA : Bs w A0 n0 b0) : ir w cs x := j8.imp h fun _ _ s => s w HA
theorem xi.zero (A0 : Oa) (n0 : Nat) (b0 : Lb) : xi A0 n0 b0 lV kb.zero := ⟨_, _, _, _, _, rfl, (by decide), (by decide), Sub.nil _ _ _, Sub.nil _ _ _, Sub.nil _ _ _, Sub.nil _ _ _, Sub.nil _ _ _⟩
theorem uX {A : Oa} {n c : Nat} {b : Lb} (w : World) (HA : Bs w A n b) (hc : n ≤ c) (hn : n ≤ 10000) :
  Ct 49 #[.slice A n c] w fun e w' => ∃ cs, e = .returned (.tuple #[.agg cs, .int .i64 (((cW b).2 : Nat) : Int)]) ∧ xi A n b cs (cW b).1 ∧ Ext w w' := by
 have F := aA.refl [] w
 have KA : Kp w.heap.size [] (fun w => Bs w A n b) w := Kp.bs HA (by simp)
 have hbl := HA.1
 have P := wj.whole (A0 := A) (b0 := b) hc Om hbl
 obtain ⟨g, hg⟩ : ∃ g, g = cU (db 2 1 (db 2 1 (.ok b))) := ⟨_, rfl⟩
 obtain ⟨e, he⟩ : ∃ e, e = dK 8 g.2 := ⟨_, rfl⟩
 obtain ⟨t, ht⟩ : ∃ t, t = cU e.2 := ⟨_, rfl⟩
 obtain ⟨u, hu⟩ : ∃ u, u = cU t.2 := ⟨_, rfl⟩
 obtain ⟨q, hq⟩ : ∃ q, q = cU (db 1 0 (db 1 0 u.2)) := ⟨_, rfl⟩
 obtain ⟨f, hf⟩ : ∃ f, f = dK 4 q.2 := ⟨_, rfl⟩
 obtain ⟨z, hz⟩ : ∃ z, z = cU f.2 := ⟨_, rfl⟩
 have hX : j9 (.ok b) = (⟨⟨g.1, e.1, t.1, u.1⟩, q.1, (f.1 : Int), z.1⟩, z.2) := by rw [hz, hf, hq, hu, ht, he, hg]; rfl
 have VP : e.1 < 18446744073709551616 := by rw [he]; exact pI 8 _
 have Wg : f.1 < 4294967296 := by rw [hf]; exact pI 4 _
 have hO : cW b = cN kb.zero (j9 (.ok b)) (decide (jq (j9 (.ok b)).1)) := rfl
 rw [hX] at hO
 refine dn (s := 7) 80 func49 rfl rfl rfl underlying42 rfl Kr rfl ?_
 intro _ hret
 refine aU ?_
 intro _ VG B2 Vy ex
 have Wh := ex.size
 replace F := F.grow ex Vy
 replace KA := KA.grow ex Vy
 refine aU ?_
 intro _ VH B4 Vx ex
 have VI : VG < VH := Nat.lt_of_lt_of_le B2.lt Vx
 replace F := F.grow ex Vx
 replace KA := KA.grow ex Vx
 replace B2 := B2.grow ex Vx
 refine au 16 ?_
 refine ak (aq rfl (cells := bz A n c 0 0) Kr) ?_
 refine aB func117 rfl (jH 2 1 2 1 rfl rfl _ KA.out P Om) ?_
 rintro e _ ⟨_, rfl, P, ex⟩
 obtain ⟨F,KA,B2,B4⟩ := bO ex F KA B2 B4
 obtain ⟨A4, n4, c4, t4, e4, rfl, P⟩ := P.get
 refine aU ?_
 intro _ VJ B5 Vw ex
 have VK : VG < VJ := Nat.lt_of_lt_of_le B2.lt Vw
 have VL : VH < VJ := Nat.lt_of_lt_of_le B4.lt Vw
 replace F := F.grow ex Vw
 replace KA := KA.grow ex Vw
 replace B2 := B2.grow ex Vw
 replace B4 := B4.grow ex Vw
 refine aU ?_
 intro _ D cg
 have ex := aA.one cg
 clear cg
 obtain ⟨F,KA,B2,B4⟩ := dj ex F KA B2 B4
 replace B5 := D; clear D
 replace B5 := B5.congr (cs' := bz A4 n4 c4 t4 e4) rfl
 refine aU ?_
 refine aB func117 rfl (jH 2 1 2 1 rfl rfl _ KA.out P Om) ?_
 rintro e _ ⟨_, rfl, P, ex⟩
 obtain ⟨F,KA,B2,B4,B5⟩ := er ex F KA B2 B4 B5
 obtain ⟨A5, n5, c5, t5, e5, rfl, P⟩ := P.get
 refine aU ?_
 intro _ D cg
 have ex := aA.one cg
 clear cg
 obtain ⟨F,KA,B2,B4⟩ := dj ex F KA B2 B4
 replace B5 := D; clear D
 replace B5 := B5.congr (cs' := bz A5 n5 c5 t5 e5) rfl
 refine aU ?_
 refine aB func113 rfl (fS _ KA.out P) ?_
 rintro e _ ⟨h6, _, rfl, VM, VQ, _, _, P, ex⟩
 refine au 1 ?_
 obtain ⟨F,KA,B2,B4,B5⟩ := er ex F KA B2 B4 B5
 rw [← hg] at P VM VQ; obtain ⟨A6, n6, c6, t6, e6, rfl, P⟩ := P.get
 refine aU ?_
 intro _ D cg
 have ex := aA.one cg
 clear cg
 obtain ⟨F,KA,B2,B5⟩ := dj ex F KA B2 B5
 replace B4 := D; clear D
 refine aU ?_
 intro _ D cg
 have ex := aA.one cg
 clear cg
 obtain ⟨F,KA,B2,B4⟩ := dj ex F KA B2 B4
 replace B5 := D; clear D
 replace B5 := B5.congr (cs' := bz A6 n6 c6 t6 e6) rfl
 refine aU ?_
 refine aB func118 rfl (nI 8 8 rfl _ KA.out P Om) ?_
 rintro e _ ⟨_, rfl, P, ex⟩
 refine au 1 ?_
 obtain ⟨F,KA,B2,B4,B5⟩ := er ex F KA B2 B4 B5
 rw [← he] at P ⊢; obtain ⟨A7, n7, c7, t7, e7, rfl, P⟩ := P.get
 refine aU ?_
 intro _ D cg
 have ex := aA.one cg
 clear cg
 obtain ⟨F,KA,B2,B5⟩ := dj ex F KA B2 B5
 replace B4 := D; clear D
 refine aU ?_
 intro _ D cg
 have ex := aA.one cg
 clear cg
 obtain ⟨F,KA,B2,B4⟩ := dj ex F KA B2 B4
 replace B5 := D; clear D
 replace B5 := B5.congr (cs' := bz A7 n7 c7 t7 e7) rfl
 refine aU ?_
 refine aB func113 rfl (fS _ KA.out P) ?_
 rintro e _ ⟨h8, _, rfl, VN, VR, _, _, P, ex⟩
 refine au 1 ?_
 obtain ⟨F,KA,B2,B4,B5⟩ := er ex F KA B2 B4 B5
 rw [← ht] at P VN VR; obtain ⟨A8, n8, c8, t8, e8, rfl, P⟩ := P.get
 refine aU ?_
 intro _ D cg
 have ex := aA.one cg
 clear cg
 obtain ⟨F,KA,B2,B5⟩ := dj ex F KA B2 B5
 replace B4 := D; clear D
 refine aU ?_
 intro _ D cg
 have ex := aA.one cg
 clear cg
 obtain ⟨F,KA,B2,B4⟩ := dj ex F KA B2 B4
 replace B5 := D; clear D
 replace B5 := B5.congr (cs' := bz A8 n8 c8 t8 e8) rfl
 refine aU ?_
 refine aB func113 rfl (fS _ KA.out P) ?_
 rintro e _ ⟨h9, _, rfl, VO, VS, _, _, P, ex⟩
 refine au 1 ?_
 obtain ⟨F,KA,B2,B4,B5⟩ := er ex F KA B2 B4 B5
 rw [← hu] at P VO VS; obtain ⟨A9, n9, c9, t9, e9, rfl, P⟩ := P.get
 refine aU ?_
 intro _ D cg
 have ex := aA.one cg
 clear cg
 obtain ⟨F,KA,B2,B5⟩ := dj ex F KA B2 B5
 replace B4 := D; clear D
 refine aU ?_
 intro _ D cg
 have ex := aA.one cg
 clear cg
 obtain ⟨F,KA,B2,B4⟩ := dj ex F KA B2 B4
 replace B5 := D; clear D
 replace B5 := B5.congr (cs' := bz A9 n9 c9 t9 e9) rfl
 refine aU ?_
 refine aB func117 rfl (jH 1 0 1 0 rfl rfl _ KA.out P Om) ?_
 rintro e _ ⟨_, rfl, P, ex⟩
 obtain ⟨F,KA,B2,B4,B5⟩ := er ex F KA B2 B4 B5
 obtain ⟨VT, VU, c10, t10, VV, rfl, P⟩ := P.get
 refine aU ?_
 intro _ D cg
 have ex := aA.one cg
 clear cg
 obtain ⟨F,KA,B2,B4⟩ := dj ex F KA B2 B4
 replace B5 := D; clear D
 replace B5 := B5.congr (cs' := bz VT VU c10 t10 VV) rfl
 refine aU ?_
 refine aB func117 rfl (jH 1 0 1 0 rfl rfl _ KA.out P Om) ?_
 rintro e _ ⟨_, rfl, P, ex⟩
 obtain ⟨F,KA,B2,B4,B5⟩ := er ex F KA B2 B4 B5
 obtain ⟨VW, VX, c11, t11, VY, rfl, P⟩ := P.get
 refine aU ?_
 intro _ D cg
 have ex := aA.one cg
 clear cg
 obtain ⟨F,KA,B2,B4⟩ := dj ex F KA B2 B4
 replace B5 := D; clear D
 replace B5 := B5.congr (cs' := bz VW VX c11 t11 VY) rfl
 refine aU ?_
 refine aB func113 rfl (fS _ KA.out P) ?_
 rintro e _ ⟨VB, _, rfl, Vz, VC, _, _, P, ex⟩
 refine au 1 ?_
 obtain ⟨F,KA,B2,B4,B5⟩ := er ex F KA B2 B4 B5
 rw [← hq] at P Vz VC; obtain ⟨VZ, V0, V4, t12, V5, rfl, P⟩ := P.get
 refine aU ?_
 intro _ D cg
 have ex := aA.one cg
 clear cg
 obtain ⟨F,KA,B2,B5⟩ := dj ex F KA B2 B5
 replace B4 := D; clear D
 refine aU ?_
 intro _ D cg
 have ex := aA.one cg
 clear cg
 obtain ⟨F,KA,B2,B4⟩ := dj ex F KA B2 B4
 replace B5 := D; clear D
 replace B5 := B5.congr (cs' := bz VZ V0 V4 t12 V5) rfl
 refine aU ?_
 refine aB func118 rfl (nI 4 4 rfl _ KA.out P Om) ?_
 rintro e _ ⟨_, rfl, P, ex⟩
 refine au 1 ?_
 obtain ⟨F,KA,B2,B4,B5⟩ := er ex F KA B2 B4 B5
 rw [← hf] at P ⊢; obtain ⟨V6, V7, V8, t13, V9, rfl, P⟩ := P.get
 refine aU ?_
 intro _ D cg
 have ex := aA.one cg
 clear cg
 obtain ⟨F,KA,B2,B4⟩ := dj ex F KA B2 B4
 replace B5 := D; clear D
 replace B5 := B5.congr (cs' := bz V6 V7 V8 t13 V9) rfl
 refine aU ?_
 intro _ D cg
 have ex := aA.one cg
 clear cg
 obtain ⟨F,KA,B2,B5⟩ := dj ex F KA B2 B5
 replace B4 := D; clear D
 refine aU ?_
 refine aB func113 rfl (fS _ KA.out P) ?_
 rintro e _ ⟨VD, _, rfl, VA, VE, _, _, P, ex⟩
 refine au 1 ?_
 obtain ⟨F,KA,B2,B4,B5⟩ := er ex F KA B2 B4 B5
 rw [← hz] at P VA VE; obtain ⟨Wa, Wb, Wc, t15, We, rfl, P⟩ := P.get
 refine aU ?_
 intro _ D cg
 have ex := aA.one cg
 clear cg
 obtain ⟨F,KA,B2,B5⟩ := dj ex F KA B2 B5
 replace B4 := D; clear D
 refine aU ?_
 intro _ D cg
 have ex := aA.one cg
 clear cg
 obtain ⟨F,KA,B2,B4⟩ := dj ex F KA B2 B4
 replace B5 := D; clear D
 replace B5 := B5.congr (cs' := bz Wa Wb Wc t15 We) rfl
 refine aU ?_
 refine aB func115 rfl (oy _ P) ?_
 rintro e _ ⟨rfl, ex⟩
 obtain ⟨F,KA,B2,B4⟩ := bO ex F KA B2 B4
 have IS : xi A n b (pq h6 e.1 h8 h9 VB (f.1 : Int) VD) ⟨⟨g.1, e.1, t.1, u.1⟩, q.1, (f.1 : Int), z.1⟩ := ⟨_, _, _, _, _, rfl, VP, (by show (-9223372036854775808 : Int) ≤ (f.1 : Int) ∧ (f.1 : Int) ≤ 9223372036854775807; omega), VM, VN, VO, Vz, VA⟩
 replace B4 := B4.congr (cs' := pq h6 e.1 h8 h9 VB (f.1 : Int) VD) rfl
 refine aU ?_
 refine al rfl (fun Wf => ?_) (fun Wf => ?_)
 ·refine au 2 ?_
  refine ak (aq rfl (cells := lV) Kr) ?_
  refine aU ?_
  intro _ D cg
  have ex := aA.one cg
  clear cg
  replace F := F.bo ex
  replace B2 := D; clear D
  replace B2 := B2.congr (cs' := lV) rfl
  refine aU ?_
  refine hret rfl rfl B2 rfl ?_
  rw [hO]; unfold cN; rw [if_pos (show eo z.2 ≠ 0 by omega)]; exact ⟨_, rfl, xi.zero _ _ _, (((F.drop Om).drop Om).drop Om) |>.aD (by simp)⟩
 ·refine aU ?_
  refine aB func19 rfl (BE _ (IS.at KA.out)) ?_
  rintro e _ ⟨rfl, ex⟩
  obtain ⟨F,B2,B4⟩ := bC ex F B2 B4
  refine aU ?_
  refine bA rfl (fun VF => ?_) (fun VF => ?_)
  ·refine au 2 ?_
   refine ak (aq rfl (cells := lV) Kr) ?_
   refine aU ?_
   intro _ D cg
   have ex := aA.one cg
   clear cg
   replace F := F.bo ex
   replace B2 := D; clear D
   replace B2 := B2.congr (cs' := lV) rfl
   refine aU ?_
   refine hret rfl rfl B2 rfl ?_
   rw [hO]; unfold cN; rw [if_neg (show ¬ eo z.2 ≠ 0 by omega), if_neg (by simpa using VF)]; exact ⟨_, rfl, xi.zero _ _ _, (((F.drop Om).drop Om).drop Om) |>.aD (by simp)⟩
  ·refine aU ?_
   intro _ D cg
   have ex := aA.one cg
   clear cg
   replace F := F.bo ex
   replace B2 := D; clear D
   replace B2 := B2.congr (cs' := pq h6 e.1 h8 h9 VB (f.1 : Int) VD) rfl
   refine aU ?_
   refine hret rfl rfl B2 rfl ?_
   rw [hO]; unfold cN; rw [if_neg (show ¬ eo z.2 ≠ 0 by omega), if_pos (by simpa using VF)]; exact ⟨_, rfl, IS, (((F.drop Om).drop Om).drop Om) |>.aD (by simp)⟩
end
section
open Go.RowKit Tryz
attribute [local irreducible] Y Ef WL WC WK WQ WM cE WN WF dc WJ gJ
open Wire Nd M20
theorem nP {A B : Oa} {n c m d : Nat} {j y : Lb} (w : World) (HA : Bs w A n j) (HB : Bs w B m y) :
  Ct 97 #[.slice A n c, .slice B m d] w fun e w' => e = .returned (.bool (decide (wZ j y))) ∧ Ext w w' := by
 have n1 := HA.1; have n2 := HB.1
 have E := Ext.refl w
 refine ai 18 func97 rfl rfl rfl rfl ?_
 intro _ hret
 refine au 9 ?_
 refine aR (cL rfl rfl) rfl (fun q1 => ?_) (fun q1 => ?_)
 ·refine au 3 ?_
  refine aJ 8 rfl rfl (cL rfl rfl) rfl (fun q2 => ?_) (fun q2 => ?_)
  ·refine aU ?_
   refine hret rfl ?_
   exact ⟨bF ⟨by omega, .inl Om⟩, E⟩
  ·refine aU ?_
   refine hret rfl ?_
   exact ⟨cV ⟨fun h => ⟨by omega, .inr Om⟩, fun h => by have := h.2; omega⟩, E⟩
 ·refine aU ?_
  refine dg 12 rfl rfl rfl ?_
  refine dg 12 rfl rfl rfl ?_
  refine dg 12 rfl rfl rfl ?_
  refine aU ?_
  refine hret rfl ?_
  exact ⟨aI fun h => by have := h.1; omega, E⟩
theorem ql {A : Oa} {n c : Nat} {b : Lb} (w : World) (HA : Bs w A n b) (hc : n ≤ c) (hn : n ≤ 10000) :
  Ct 46 #[.slice A n c] w fun e w' => ∃ h h' : Hd, e = .returned (.tuple #[.slice h.A h.n h.c, .slice h'.A h'.n h'.c, .int .i64 (((bJ b).2 : Nat) : Int)]) ∧ Sub A n b h.A h.n (bJ b).1.1 ∧ Sub A n b h'.A h'.n (bJ b).1.2.2 ∧ Ext w w' := by
 have F := aA.refl [] w
 have KA : Kp w.heap.size [] (fun w => Bs w A n b) w := Kp.bs HA (by simp)
 have hbl := HA.1
 have P := wj.whole (A0 := A) (b0 := b) hc Om hbl
 obtain ⟨g, hg⟩ : ∃ g, g = cU (.ok b) := ⟨_, rfl⟩
 obtain ⟨f, hf⟩ : ∃ f, f = fY g.2 := ⟨_, rfl⟩
 obtain ⟨y, hy⟩ : ∃ y, y = if f.1 then cU f.2 else ([], f.2) := ⟨_, rfl⟩
 have hX : iL (.ok b) = ((g.1, f.1, y.1), y.2) := by rw [hy, hf, hg]; rfl
 have hO : bJ b = cN ([], false, []) (iL (.ok b)) (decide (eZ (iL (.ok b)).1)) := rfl
 rw [hX] at hO
 refine ln 48 func46 rfl rfl rfl rfl ?_
 intro _ hret
 refine au 21 ?_
 refine ak (aq rfl (cells := bz A n c 0 0) Kr) ?_
 refine aB func113 rfl (fS _ KA.out P) ?_
 rintro e _ ⟨h3, _, rfl, S3, l3, _, _, P, ex⟩
 refine au 1 ?_
 obtain ⟨F,KA⟩ := ba ex F KA
 rw [← hg] at S3 l3 P; obtain ⟨A3, n3, c3, t3, e3, rfl, P⟩ := P.get
 have q6 := F.size
 refine aU ?_
 intro _ _ B6 Vx ex
 replace F := F.grow ex Vx
 replace KA := KA.grow ex Vx
 refine aU ?_
 intro _ D cg
 have ex := aA.one cg
 clear cg
 obtain ⟨F,KA⟩ := gA ex F KA
 replace B6 := D; clear D
 replace B6 := B6.congr (cs' := bz A3 n3 c3 t3 e3) rfl
 refine aU ?_
 refine aB func114 rfl (zK _ KA.out P) ?_
 rintro e _ ⟨_, rfl, P, ex⟩
 refine au 1 ?_
 obtain ⟨F,KA,B6⟩ := bC ex F KA B6
 rw [← hf] at P ⊢; obtain ⟨A4, n4, c4, t4, e4, rfl, P⟩ := P.get
 refine aU ?_
 intro _ D cg
 have ex := aA.one cg
 clear cg
 obtain ⟨F,KA⟩ := gA ex F KA
 replace B6 := D; clear D
 replace B6 := B6.congr (cs' := bz A4 n4 c4 t4 e4) rfl
 refine aU ?_
 refine bA rfl (fun Vw => ?_) (fun Vw => ?_)
 ·refine aU ?_
  have Vy : y = cU f.2 := by rw [hy, if_pos Vw]
  refine aB func113 rfl (fS _ KA.out P) ?_
  rintro e _ ⟨h7, _, rfl, S7, l7, _, _, P, ex⟩
  refine au 1 ?_
  obtain ⟨F,B6⟩ := ba ex F B6
  rw [← Vy] at S7 l7 P; obtain ⟨A7, n7, c7, t7, e7, rfl, P⟩ := P.get
  refine aU ?_
  intro _ D cg
  have ex := aA.one cg
  clear cg
  replace F := F.bo ex
  replace B6 := D; clear D
  replace B6 := B6.congr (cs' := bz A7 n7 c7 t7 e7) rfl
  refine aU ?_
  refine aB func115 rfl (oy _ P) ?_
  rintro e w8 ⟨rfl, ex⟩
  replace F := F.ext ex
  refine aU ?_
  refine al rfl (fun Vz => ?_) (fun Vz => ?_)
  ·refine aU ?_
   refine hret rfl rfl rfl ?_
   rw [hO]; unfold cN; rw [if_pos (show eo y.2 ≠ 0 by omega)]
   exact ⟨an, an, rfl, Sub.nil _ _ _, Sub.nil _ _ _, F.drop Om |>.aD (by simp)⟩
  ·refine au 4 ?_
   rw [show f.1 = _ from Vw]
   refine au 3 ?_
   refine aR (iY rfl rfl) rfl (fun k0 => ?_) (fun k0 => ?_)
   ·refine aU ?_
    refine dg 40 rfl rfl rfl ?_
    refine dg 40 rfl rfl rfl ?_
    refine dg 40 rfl rfl rfl ?_
    refine au 4 ?_
    refine bR rfl rfl ?_
    have hno : ¬ eZ (g.1, f.1, y.1) := fun h => by have h1 : g.1.length = 32 := h.1.1; omega
    refine aU ?_
    refine hret rfl rfl rfl ?_
    rw [hO]; unfold cN; rw [if_neg (show ¬ eo y.2 ≠ 0 by omega), if_neg (by rw [decide_eq_false hno]; decide)]
    exact ⟨an, an, rfl, Sub.nil _ _ _, Sub.nil _ _ _, F.drop Om |>.aD (by simp)⟩
   ·refine au 5 ?_
    refine aJ 40 rfl rfl (iY rfl rfl) rfl (fun k1 => ?_) (fun k1 => ?_)
    ·refine au 4 ?_
     refine bR rfl rfl ?_
     have hno : ¬ eZ (g.1, f.1, y.1) := fun h => by
      have h2 : y.1.length = 0 ∨ y.1.length = 32 := h.1.2
      have h3 : 0 < y.1.length := h.2.1 Vw
      omega
     refine aU ?_
     refine hret rfl rfl rfl ?_
     rw [hO]; unfold cN; rw [if_neg (show ¬ eo y.2 ≠ 0 by omega), if_neg (by rw [decide_eq_false hno]; decide)]
     exact ⟨an, an, rfl, Sub.nil _ _ _, Sub.nil _ _ _, F.drop Om |>.aD (by simp)⟩
    ·refine au 4 ?_
     refine aX rfl rfl ?_
     refine aU ?_
     refine hret rfl rfl rfl ?_
     have hyes : eZ (g.1, f.1, y.1) := ⟨⟨by show g.1.length = 32; omega, .inr (by show y.1.length = 32; omega)⟩, ⟨fun _ => by show 0 < y.1.length; omega, fun _ => Vw⟩⟩
     rw [hO]; unfold cN; rw [if_neg (show ¬ eo y.2 ≠ 0 by omega), if_pos (decide_eq_true hyes)]
     exact ⟨h3, h7, rfl, S3, S7, F.drop Om |>.aD (by simp)⟩
 ·have Vy : y = ([], f.2) := by rw [hy, if_neg (by rw [Vw]; decide)]
  replace P : wj A n b (bz A4 n4 c4 t4 e4) y.2 := by rw [Vy]; exact P
  refine aU ?_
  refine aB func115 rfl (oy _ P) ?_
  rintro e w8 ⟨rfl, ex⟩
  replace F := F.ext ex
  refine aU ?_
  refine al rfl (fun Vz => ?_) (fun Vz => ?_)
  ·refine aU ?_
   refine hret rfl rfl rfl ?_
   rw [hO]; unfold cN; rw [if_pos (show eo y.2 ≠ 0 by omega)]
   exact ⟨an, an, rfl, Sub.nil _ _ _, Sub.nil _ _ _, F.drop Om |>.aD (by simp)⟩
  ·refine au 4 ?_
   rw [show f.1 = _ from Vw]
   refine au 3 ?_
   refine aR (iY rfl rfl) rfl (fun k0 => ?_) (fun k0 => ?_)
   ·refine aU ?_
    refine dg 40 rfl rfl rfl ?_
    refine dg 40 rfl rfl rfl ?_
    refine dg 40 rfl rfl rfl ?_
    refine au 4 ?_
    refine bR rfl rfl ?_
    have hno : ¬ eZ (g.1, f.1, y.1) := fun h => by have h1 : g.1.length = 32 := h.1.1; omega
    refine aU ?_
    refine hret rfl rfl rfl ?_
    rw [hO]; unfold cN; rw [if_neg (show ¬ eo y.2 ≠ 0 by omega), if_neg (by rw [decide_eq_false hno]; decide)]
    exact ⟨an, an, rfl, Sub.nil _ _ _, Sub.nil _ _ _, F.drop Om |>.aD (by simp)⟩
   ·refine au 10 ?_
    refine aX rfl rfl ?_
    refine aU ?_
    refine hret rfl rfl rfl ?_
    have hyes : eZ (g.1, f.1, y.1) := by rw [Vy, Vw]; exact ⟨⟨by show g.1.length = 32; omega, .inl rfl⟩, ⟨fun h => (by cases h), fun h => absurd h (Nat.lt_irrefl 0)⟩⟩
    rw [hO]; unfold cN; rw [if_neg (show ¬ eo y.2 ≠ 0 by omega), if_pos (decide_eq_true hyes)]
    exact ⟨h3, an, rfl, S3, by rw [Vy]; exact Sub.nil _ _ _, F.drop Om |>.aD (by simp)⟩
end
section
open Go.RowKit Tryz
attribute [local irreducible] Y Ef WL WC WK WQ WM cE WN WF dc WJ gJ
open Wire Nd M20
theorem yV {N gi gr g2 g5 g3 M : Nat} {s : St} (w : World) (H : In N [gi, gr, g2, g5, g3] w gi gr s) (C2 : ao w g2 23 #[.slice none 0 0]) (C5 : ao w g5 4 #[.bool false]) (C3 : ao w g3 23 #[.slice none 0 0]) (i2 : gi ≠ g2) (i5 : gi ≠ g5) (i3 : gi ≠ g3) (r2 : gr ≠ g2) (r5 : gr ≠ g5) (r3 : gr ≠ g3) (n25 : g2 ≠ g5) (Vy : g2 ≠ g3) (n53 : g5 ≠ g3) (Vz : M ≤ gi) (VA : M ≤ gr) (hM : M ≤ w.heap.size) :
  Ct 92 #[.pointer (some ⟨gi, 0, none⟩), .pointer (some ⟨g2, 0, none⟩), .pointer (some ⟨g5, 0, none⟩), .pointer (some ⟨g3, 0, none⟩)] w fun e w' => e = .returned (.tuple #[]) ∧ In N [gi, gr, g2, g5, g3] w' gi gr (iL s).2 ∧ (∃ h h' : Hd, ao w' g2 23 #[.slice h.A h.n h.c] ∧ ao w' g5 4 #[.bool (iL s).1.2.1] ∧ ao w' g3 23 #[.slice h'.A h'.n h'.c] ∧ Kp w'.heap.size [gi, g2, g5, g3] (fun w => Fb M w h.A h.n (iL s).1.1 ∧ Fb M w h'.A h'.n (iL s).1.2.2) w') ∧ M5 M [g2, g5, g3] w w' := by
 have hli := H.OS
 have hlr := H.NT
 have l2 := C2.lt; have l5 := C5.lt; have l3 := C3.lt
 have F := aA.refl [gr, gi, g2, g5, g3] w
 obtain ⟨g, hg⟩ : ∃ g, g = cU s := ⟨_, rfl⟩
 obtain ⟨f, hf⟩ : ∃ f, f = fY g.2 := ⟨_, rfl⟩
 obtain ⟨y, hy⟩ : ∃ y, y = if f.1 then cU f.2 else ([], f.2) := ⟨_, rfl⟩
 have hX : iL s = ((g.1, f.1, y.1), y.2) := by rw [hy, hf, hg]; rfl
 refine fp 12 func92 rfl rfl rfl rfl ?_
 intro _ hret
 refine aU ?_
 refine aB func93 rfl (il _ H) ?_
 rintro e _ ⟨A1, n1, c1, rfl, _, V1, H1, ex⟩
 refine au 1 ?_
 obtain ⟨F,C2,C5,C3⟩ := dj ex F C2 C5 C3
 rw [← hg] at V1 H1; have J1 := V1.kk (S := [gi, gr, g2, g5, g3]) So
 refine aU ?_
 intro _ D cg
 have ex := aA.one cg
 clear cg
 obtain ⟨F,C5,C3,H1,J1⟩ := jS ex F C5 C3 H1 J1
 replace C2 := D; clear D
 replace C2 := C2.congr (cs' := #[.slice A1 n1 c1]) rfl
 refine aU ?_
 refine aB func94 rfl (Cy _ H1) ?_
 rintro e _ ⟨rfl, H2, ex⟩
 refine au 1 ?_
 rw [← hf] at H2 ⊢
 obtain ⟨F,C2,C5,C3,J1⟩ := jS ex F C2 C5 C3 J1
 refine aU ?_
 intro _ D cg
 have ex := aA.one cg
 clear cg
 obtain ⟨F,C2,C3,J1,H2⟩ := jS ex F C2 C3 J1 H2
 replace C5 := D; clear D
 replace C5 := C5.congr (cs' := #[.bool f.1]) rfl
 refine aU ?_
 refine bA rfl (fun Vw => ?_) (fun Vw => ?_)
 ·refine aU ?_
  have q3 := F.size
  have Vx : y = cU f.2 := by rw [hy, if_pos Vw]
  refine aB func93 rfl (il _ H2) ?_
  rintro e _ ⟨A2, n2, c2, rfl, _, V2, H3, ex⟩
  refine au 1 ?_
  obtain ⟨F,C2,C5,C3,J1⟩ := jS ex F C2 C5 C3 J1
  rw [← Vx] at V2 H3; have J2 := V2.kk (S := [gi, gr, g2, g5, g3]) So
  refine aU ?_
  intro _ D cg
  have ex := aA.one cg
  clear cg
  obtain ⟨F,C2,C5,J1,H3,J2⟩ := tM ex F C2 C5 J1 H3 J2
  replace C3 := D; clear D
  replace C3 := C3.congr (cs' := #[.slice A2 n2 c2]) rfl
  refine aU ?_
  refine hret (.inr rfl) ?_
  rw [hX]
  exact ⟨rfl, H3, ⟨⟨A1, n1, c1⟩, ⟨A2, n2, c2⟩, C2, C5, C3, ((J1.rM J1.1 (Nat.le_refl _)).and (J2.rM J2.1 (Nat.le_refl _))).map (fun _ ⟨a, b⟩ => ⟨a.mono Om, b.mono Om⟩) |>.mono (by simp)⟩, F.Md hM⟩
 ·refine aU ?_
  refine hret (.inr rfl) ?_
  have Vx : y = ([], f.2) := by rw [hy, if_neg (by rw [Vw]; decide)]
  rw [hX, Vx]
  exact ⟨rfl, H2, ⟨⟨A1, n1, c1⟩, an, C2, C5, C3, (J1.rM J1.1 (Nat.le_refl _)).map (fun _ a => ⟨a.mono Om, Fb.nil _ _ _⟩) |>.mono (by simp)⟩, F.Md hM⟩
theorem yq {g2 g5 g3 : Nat} {h h' : Hd} {j y : Lb} {f : Bool} (w : World) (C2 : ao w g2 23 #[.slice h.A h.n h.c]) (C5 : ao w g5 4 #[.bool f]) (C3 : ao w g3 23 #[.slice h'.A h'.n h'.c]) (HA : Bs w h.A h.n j) (HB : Bs w h'.A h'.n y) :
  Ct 96 #[.pointer (some ⟨g2, 0, none⟩), .pointer (some ⟨g3, 0, none⟩), .pointer (some ⟨g5, 0, none⟩)] w fun e w' => e = .returned (.bool (decide (eZ (j, f, y)))) ∧ Ext w w' := by
 have hl := HB.1
 have E := Ext.refl w
 refine ai 14 func96 rfl rfl rfl rfl ?_
 intro _ hret
 refine aU ?_
 refine aB func97 rfl (nP _ (Bs.ext HA E) (Bs.ext HB E)) ?_
 rintro e _ ⟨rfl, ex⟩
 obtain ⟨E,C5,C3⟩ := bC ex E C5 C3
 refine au 1 ?_
 refine aR (aQ rfl) rfl (fun q0 => ?_) (fun q0 => ?_)
 ·refine au 4 ?_
  refine gE 7 (Mg rfl rfl Tn.u) ?_
  refine aU ?_
  refine hret rfl ?_
  have key : decide (eZ (j, f, y)) = true ↔ f = decide (0 < (h'.n : Int)) := by
   rw [decide_eq_true_iff]
   constructor
   ·intro o
    have o2 : f = true ↔ 0 < y.length := o.2
    cases f with
    | true => rw [eq_comm, decide_eq_true_iff]; have := o2.1 rfl; omega
    | false => rw [eq_comm, decide_eq_false_iff_not]; intro h; have := o2.2 Om; cases this
   ·intro e
    refine ⟨q0, ?_⟩
    show f = true ↔ 0 < y.length
    rw [e, decide_eq_true_iff]; omega
  exact ⟨(oD key).symm, E⟩
 ·refine aU ?_
  refine hret rfl ?_
  exact ⟨aI fun h => q0 h.1, E⟩
theorem rO {A : Oa} {n c : Nat} {b : Lb} (w : World) (HA : Bs w A n b) (hc : n ≤ c) (hn : n ≤ 1048576) :
  Ct 39 #[.slice A n c] w fun e w' => ∃ h h' : Hd, e = .returned (.tuple #[.slice h.A h.n h.c, .slice h'.A h'.n h'.c, .int .u8 (((bJ b).2 : Nat) : Int)]) ∧ Bs w' h.A h.n (bJ b).1.1 ∧ Bs w' h'.A h'.n (bJ b).1.2.2 ∧ (bJ b).2 < 256 ∧ Ext w w' := by
 have F := aA.refl [] w
 have KA : Kp w.heap.size [] (fun w => Bs w A n b) w := Kp.bs HA (by simp)
 have hX : bJ b = cN ([], false, []) (iL (.ok b)) (decide (eZ (iL (.ok b)).1)) := rfl
 refine vh 18 func39 rfl rfl rfl underlying23 rfl underlying23 rfl rfl ?_
 intro _ hret
 refine aU ?_
 intro _ Vx B2 VC ex
 have VI := ex.size
 replace F := F.grow ex VC
 replace KA := KA.grow ex VC
 refine aU ?_
 intro _ Vy B3 Vz ex
 have VE : Vx < Vy := Nat.lt_of_lt_of_le B2.lt Vz
 replace F := F.grow ex Vz
 replace KA := KA.grow ex Vz
 replace B2 := B2.grow ex Vz
 refine aU ?_
 intro _ VB B5 Vw ex
 have VF : Vx < VB := Nat.lt_of_lt_of_le B2.lt Vw
 have VG : Vy < VB := Nat.lt_of_lt_of_le B3.lt Vw
 replace F := F.grow ex Vw
 replace KA := KA.grow ex Vw
 replace B2 := B2.grow ex Vw
 replace B3 := B3.grow ex Vw
 refine aU ?_
 intro VA D cg
 have ex := aA.one cg
 clear cg
 obtain ⟨F,KA,B2,B3⟩ := dj ex F KA B2 B3
 replace B5 := D; clear D
 refine au 4 ?_
 refine ak (jJ rfl) ?_
 refine au 8 ?_
 refine ak (jJ rfl) ?_
 have q2 := B2.lt; have q3 := B3.lt; have q5 := B5.lt
 replace B5 := B5.congr (cs' := #[.bool false]) rfl
 refine aB func95 rfl (uO (N := w.heap.size) (V := [Vx, VB, Vy]) (t := (iL (.ok b)).2) (okv := decide (eZ (iL (.ok b)).1)) (us := [.pointer (some ⟨Vx, 0, none⟩), .pointer (some ⟨VB, 0, none⟩), .pointer (some ⟨Vy, 0, none⟩)]) (vs := [.pointer (some ⟨Vx, 0, none⟩), .pointer (some ⟨Vy, 0, none⟩), .pointer (some ⟨VB, 0, none⟩)]) (Ψ := fun gi w => ∃ h h' : Hd, ao w Vx 23 #[.slice h.A h.n h.c] ∧ ao w VB 4 #[.bool (iL (.ok b)).1.2.1] ∧ ao w Vy 23 #[.slice h'.A h'.n h'.c] ∧ Kp w.heap.size [gi, Vx, VB, Vy] (fun w => Fb VA.heap.size w h.A h.n (iL (.ok b)).1.1 ∧ Fb VA.heap.size w h'.A h'.n (iL (.ok b)).1.2.2) w) _ (KA.mono (by simp)) hc Om So func92 rfl rfl func96 rfl rfl (fun w1 gi gr E hi hr H hS => yV w1 H (B2.ext E) (B5.ext E) (B3.ext E) Om Om Om Om Om Om Om Om Om Om Om (by have := E.size; omega)) (fun gi w1 w2 hi ⟨h, h', a, b', c', K⟩ C => ⟨h, h', a.bo C So, b'.bo C So, c'.bo C So, (K.bo C (by simp)).rM C.size (Nat.le_refl _)⟩) (fun gi w1 ⟨h, h', a, b', c', K⟩ _ => yq w1 a b' c' K.out.1.1 K.out.2.1)) ?_
 rintro e _ ⟨rfl, ⟨gi, _, h, h', D2, _, D3, KM⟩, VD, ex⟩
 replace F := F.bo ex
 have B2 := D2; have B3 := D3; have Ja := KM.out.1.kk (S := [Vx, Vy]) So; have Jb := KM.out.2.kk (S := [Vx, Vy]) So; clear KM
 refine aU ?_
 refine al rfl (fun VH => ?_) (fun VH => ?_)
 ·have e1 := xd (z := (([], false, []) : List UInt8 × Bool × List UInt8)) (p := iL (.ok b)) (ok := decide (eZ (iL (.ok b)).1)) Om
  refine aU ?_
  intro _ D cg
  have ex := aA.one cg
  clear cg
  obtain ⟨F,B3⟩ := gA ex F B3
  replace B2 := D; clear D
  refine aU ?_
  intro _ D cg
  have ex := aA.one cg
  clear cg
  obtain ⟨F,B2⟩ := gA ex F B2
  replace B3 := D; clear D
  refine aU ?_
  refine hret rfl rfl rfl (B2.get (i := 0) rfl) (B3.get (i := 0) rfl) ?_
  rw [hX, e1]; exact ⟨an, an, rfl, Bs.nil _ _, Bs.nil _ _, (by dsimp only; split; exact VD; split <;> omega), (F.drop Om).drop Om |>.drop Om |>.aD (by simp)⟩
 ·refine aU ?_
  have e1 := sG (z := (([], false, []) : List UInt8 × Bool × List UInt8)) (p := iL (.ok b)) (ok := decide (eZ (iL (.ok b)).1)) Om
  refine bS [(2, [Vx]), (3, [Vy])] Kr 5 rfl ?_; intro VJ ex VK
  obtain ⟨F,B2,B3,Ja,Jb⟩ := er ex F B2 B3 Ja Jb
  refine fO [(0, []), (1, [2])] ?_
  refine aU ?_
  refine cy 2 Kr ?_; refine cZ rfl (av (i := 0) rfl rfl rfl Kr B2 Nb) rfl ?_
  rintro _ _ ⟨rfl, D, cg⟩
  have ex := aA.one cg
  clear cg
  refine ⟨ex, ?_⟩
  obtain ⟨F,B3,Ja,Jb⟩ := dj ex F B3 Ja Jb
  replace B2 := D; clear D
  refine cy 3 Kr ?_; refine cZ rfl (av (i := 0) rfl rfl rfl Kr B3 Nb) rfl ?_
  rintro _ _ ⟨rfl, D, cg⟩
  have ex := aA.one cg
  clear cg
  refine ⟨ex, ?_⟩
  obtain ⟨F,B2,Ja,Jb⟩ := dj ex F B2 Ja Jb
  replace B3 := D; clear D
  refine fO [(4, [])] ?_
  refine aU ?_
  refine cF Kr ?_
  refine aU ?_
  refine hret rfl rfl rfl (B2.get (i := 0) rfl) (B3.get (i := 0) rfl) ?_
  rw [hX, e1]; exact ⟨h, h', rfl, Ja.out.1, Jb.out.1, (by show 0 < 256; omega), (F.drop Om).drop Om |>.drop Om |>.aD (by simp)⟩
end
end Go.Proofs.YtgfafidlkldeaaaGreat
