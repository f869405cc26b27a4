/- Infos and welcomes: which are small, which are the same; what the reference says of them. No conditions: contracts of the reference's functions. -/
import Derived.Test.YtgfafidlkldeaaaGreatMsZ
import Derived.Test.YtgfafidlkldeaaaGreatAu
import Derived.Test.YtgfafidlkldeaaaGreatRowC
set_option linter.unusedVariables false
set_option linter.unusedSimpArgs false
set_option maxHeartbeats 4000000
set_option maxRecDepth 4000
namespace Go.Proofs.YtgfafidlkldeaaaGreat
section
open Go.RowKit
attribute [local irreducible] Y Ef WL WC WK WQ WM cE WN WF dc WJ gJ
open Wire Nd M20
theorem mQ {s : St} {B : Nat} (h : pj s ≤ B) : (cU s).1.length ≤ B ∧ pj (cU s).2 ≤ B := by have := AL s; omega
theorem xL {α : Type} (z : α) (p : α × St) (ok : Bool) : (cN z p ok).2 = if eo p.2 ≠ 0 then eo p.2 else if ok then 0 else 3 := by
 unfold cN
 split
 ·rfl
 ·split <;> rfl
theorem xd {α : Type} {z : α} {p : α × St} {ok : Bool} (h : (if eo p.2 ≠ 0 then eo p.2 else if ok then 0 else 3) ≠ 0) : cN z p ok = (z, if eo p.2 ≠ 0 then eo p.2 else if ok then 0 else 3) := by
 rw [← xL z] at h ⊢
 exact Prod.ext (wQ h) rfl
theorem sG {α : Type} {z : α} {p : α × St} {ok : Bool} (h : ¬ (if eo p.2 ≠ 0 then eo p.2 else if ok then 0 else 3) ≠ 0) : cN z p ok = (p.1, 0) := by
 unfold cN
 split at h
 ·rename_i h1; exact absurd h1 h
 ·rename_i h1
  rw [if_neg h1]
  split at h
  ·rename_i h2; rw [if_pos h2]
  ·exact absurd (show (3 : Nat) ≠ 0 by decide) h
theorem xt {old cs : Array Value} {k : Nat} (h : old.size = k) (hc : cs.size = k) : (old.toList.take 0 ++ cs.toList ++ old.toList.drop (0 + cs.size)).toArray = cs := by
 have e : old.toList.drop (0 + cs.size) = [] := List.drop_of_length_le So
 rw [e]; simp
end
section
open Go.RowKit Tryz
attribute [local irreducible] Y Ef WL WC WK WQ WM cE WN WF dc WJ gJ
open Wire Nd M20
section
variable {cs : Array Value} {i : kb} {x : kX} {g : Nat} {t : TypeId}
theorem rD (w : World) (H : ir w cs i) :
  Ct 111 #[.agg cs] w fun e w' => e = .returned (.bool (decide (jq i))) ∧ Ext w w' := by
 obtain ⟨gr, tr, u, tg, sg, rfl, he, hz, a, b, c, d, k⟩ := H
 have n1 := a.1; have n2 := b.1; have n3 := c.1; have n4 := d.1; have n5 := k.1
 have E := Ext.refl w
 refine ai 39 func111 rfl rfl rfl rfl ?_
 intro _ hret
 refine aU ?_
 intro _ _ B1 _ ex
 replace E := E.ext ex
 refine aU ?_
 intro _ _ D3 Vw exA
 refine aU ?_
 intro _ _ cg
 have ex := exA.aE cg Vw; clear cg exA D3
 obtain ⟨E,B1⟩ := ba ex E B1
 refine au 7 ?_
 refine aR (lO rfl rfl) rfl (fun q1 => ?_) (fun q1 => ?_)
 ·refine au 4 ?_
  refine aJ 10 rfl rfl (cL rfl rfl) rfl (fun q2 => ?_) (fun q2 => ?_)
  ·refine au 5 ?_
   refine aJ 16 rfl rfl (cL rfl rfl) rfl (fun q3 => ?_) (fun q3 => ?_)
   ·refine au 5 ?_
    refine aJ 22 rfl rfl (cL rfl rfl) rfl (fun q4 => ?_) (fun q4 => ?_)
    ·refine aU ?_
     refine df 28 rfl rfl func183 rfl rfl rfl (CK _ _) rfl ?_
     rintro e _ ⟨rfl, ex⟩
     obtain ⟨E,B1⟩ := ba ex E B1
     refine au 2 ?_
     refine mT (aQ rfl) rfl (fun q5 => ?_) (fun q5 => ?_)
     ·refine aU ?_
      refine hret rfl ?_
      exact ⟨cV ⟨fun h => ⟨by omega, by omega, by omega, by omega, (by simpa using q5), by omega⟩, fun h => by have := h.2.2.2.2.2; omega⟩, E⟩
     ·refine aU ?_
      refine hret rfl ?_
      exact ⟨aI fun h => (by rw [decide_eq_true h.2.2.2.2.1] at q5; cases q5), E⟩
    ·refine aU ?_
     refine hret rfl ?_
     exact ⟨aI fun h => by have := h.2.2.2.1; omega, E⟩
   ·refine aU ?_
    refine hret rfl ?_
    exact ⟨aI fun h => by have := h.2.2.1; omega, E⟩
  ·refine aU ?_
   refine hret rfl ?_
   exact ⟨aI fun h => by have := h.2.1; omega, E⟩
 ·refine aU ?_
  refine hret rfl ?_
  exact ⟨aI fun h => by have := h.1; omega, E⟩
end
end
section
open Go.RowKit Tryz
attribute [local irreducible] Y Ef WL WC WK WQ WM cE WN WF dc WJ gJ
open Wire Nd M20
def lV : Array Value := pq an 0 an an an 0 an
theorem iX.zero (base : Nat) (w : World) : iX base w lV kb.zero := ⟨_, _, _, _, _, rfl, (by decide), (by decide), Fb.nil _ _ _, Fb.nil _ _ _, Fb.nil _ _ _, Fb.nil _ _ _, Fb.nil _ _ _⟩
theorem iX.size {base : Nat} {w : World} {cs : Array Value} {x : kb} (h : iX base w cs x) : cs.size = 7 ∧ Jn cs.toList = true := by
 obtain ⟨g, t, u, tg, sg, rfl, _⟩ := h; exact ⟨rfl, rfl⟩
theorem xQ {N gi gr gm M : Nat} {s : St} (w : World) (H : In N [gi, gr, gm] w gi gr s) (B : ao w gm 42 lV) (hi : gi ≠ gm) (hr : gr ≠ gm) (Vw : M ≤ gi) (Vx : M ≤ gr) (hM : M ≤ w.heap.size) :
  Ct 106 #[.pointer (some ⟨gi, 0, none⟩), .pointer (some ⟨gm, 0, none⟩)] w fun e w' => e = .returned (.tuple #[]) ∧ In N [gi, gr, gm] w' gi gr (j9 s).2 ∧ (∃ cs, ao w' gm 42 cs ∧ cs.size = 7 ∧ Kp w'.heap.size [gi, gm] (fun w => iX M w cs (j9 s).1) w') ∧ M5 M [gm] w w' := by
 have hli := H.OS
 have hlr := H.NT
 have hlm := B.lt
 have F := aA.refl [gr, gi, gm] w
 obtain ⟨c, hc⟩ : ∃ c, c = tW s := ⟨_, rfl⟩
 obtain ⟨t, ht⟩ : ∃ t, t = cU (db 1 0 c.2) := ⟨_, rfl⟩
 obtain ⟨f, hf⟩ : ∃ f, f = dK 4 t.2 := ⟨_, rfl⟩
 have hX : j9 s = (⟨c.1, t.1, (f.1 : Int), (cU f.2).1⟩, (cU f.2).2) := by rw [hf, ht, hc]; rfl
 have Vy : f.1 < 4294967296 := by rw [hf]; exact pI 4 _
 refine fp 18 func106 rfl rfl rfl rfl ?_
 intro _ hret
 refine aU ?_
 refine aB func107 rfl (DO _ H) ?_
 rintro e _ ⟨cs, rfl, HC, H1, ex⟩
 refine au 1 ?_
 obtain ⟨F,B⟩ := gA ex F B
 rw [← hc] at H1 HC; obtain ⟨g, tr, u, rfl, he, ja, jb, jc⟩ := HC; have Ja := ja.kk (S := [gi, gr, gm]) So; have Jb := jb.kk (S := [gi, gr, gm]) So; have Jc := jc.kk (S := [gi, gr, gm]) So
 refine aU ?_
 intro _ D cg
 have ex := aA.one cg
 clear cg
 obtain ⟨F,H1,Ja,Jb,Jc⟩ := jS ex F H1 Ja Jb Jc
 replace B := D; clear D
 replace B := B.congr (cs' := pq g c.1.ep tr u an 0 an) rfl
 refine aU ?_
 refine aB func108 rfl (kV 1 0 1 0 rfl rfl _ Om H1) ?_
 rintro e _ ⟨rfl, H2, ex⟩
 obtain ⟨F,B,Ja,Jb,Jc⟩ := jS ex F B Ja Jb Jc
 refine aU ?_
 have q2 := F.size
 refine aB func93 rfl (il _ H2) ?_
 rintro e _ ⟨A1, n1, c1, rfl, _, V1, H3, ex⟩
 refine au 1 ?_
 obtain ⟨F,B,Ja,Jb,Jc⟩ := jS ex F B Ja Jb Jc
 rw [← ht] at H3 V1; have J1 := V1.kk (S := [gi, gr, gm]) So
 refine aU ?_
 intro _ D cg
 have ex := aA.one cg
 clear cg
 obtain ⟨F,Ja,Jb,Jc,H3,J1⟩ := tM ex F Ja Jb Jc H3 J1
 replace B := D; clear D
 refine aU ?_
 refine aB func109 rfl (qH 4 4 rfl _ Om H3) ?_
 rintro e _ ⟨rfl, H4, ex⟩
 refine au 1 ?_
 rw [← hf] at H4 ⊢
 obtain ⟨F,B,Ja,Jb,Jc,J1⟩ := tM ex F B Ja Jb Jc J1
 refine aU ?_
 intro _ D cg
 have ex := aA.one cg
 clear cg
 obtain ⟨F,Ja,Jb,Jc,J1,H4⟩ := tM ex F Ja Jb Jc J1 H4
 replace B := D; clear D
 refine aU ?_
 have q3 := F.size
 refine aB func93 rfl (il _ H4) ?_
 rintro e _ ⟨A2, n2, c2, rfl, _, V2, H5, ex⟩
 obtain ⟨F,B,Ja,Jb,Jc,J1⟩ := tM ex F B Ja Jb Jc J1
 have J2 := V2.kk (S := [gi, gr, gm]) So
 refine aU ?_
 intro _ D cg
 have ex := aA.one cg
 clear cg
 obtain ⟨F,Ja,Jb,Jc,J1,H5,J2⟩ := Ks ex F Ja Jb Jc J1 H5 J2
 replace B := D; clear D
 replace B := B.congr (cs' := pq g c.1.ep tr u ⟨A1, n1, c1⟩ (f.1 : Int) ⟨A2, n2, c2⟩) rfl
 refine aU ?_
 refine hret (.inr rfl) ?_
 rw [hX]
 exact ⟨rfl, H5, ⟨_, B, rfl, (((((Ja.rM Ja.1 (Nat.le_refl _)).and (Jb.rM Jb.1 (Nat.le_refl _))).and (Jc.rM Jc.1 (Nat.le_refl _))).and (J1.rM J1.1 (Nat.le_refl _))).and (J2.rM J2.1 (Nat.le_refl _))).map (fun _ ⟨⟨⟨⟨a, b⟩, c⟩, d⟩, e⟩ => ⟨_, _, _, _, _, rfl, he, (by show (-9223372036854775808 : Int) ≤ (f.1 : Int) ∧ (f.1 : Int) ≤ 9223372036854775807; omega), a.mono Om, b.mono Om, c.mono Om, d.mono Om, e.mono Om⟩) |>.mono (by simp)⟩, F.Md hM⟩
section
variable {N3 M x gx gs gi base : Nat} {T : List Nat} {st : St}
end
def kb.Fit (i : kb) : Prop := i.ctx.grp.length ≤ 1000000 ∧ i.ctx.tree.length ≤ 1000000 ∧ i.ctx.trans.length ≤ 1000000 ∧ i.tag.length ≤ 1000000 ∧ i.sig.length ≤ 1000000
theorem I7 {s : St} (h : pj s ≤ 10000) : (j9 s).1.Fit := by
 have h1 := pE 2 1 s
 have h2 := pE 2 1 (db 2 1 s)
 have h3 := mQ (s := db 2 1 (db 2 1 s)) (B := 10000) Om
 have h4 := yW (s := (cU (db 2 1 (db 2 1 s))).2) 8
 have h5 := mQ (s := (dK 8 (cU (db 2 1 (db 2 1 s))).2).2) (B := 10000) Om
 have h6 := mQ h5.2
 have h7 := pE 1 0 (cU (cU (dK 8 (cU (db 2 1 (db 2 1 s))).2).2).2).2
 have h8 := pE 1 0 (tW s).2
 have Vw : pj (db 1 0 (tW s).2) ≤ 10000 := Nat.le_trans h8 (Nat.le_trans h7 h6.2)
 have h9 := mQ Vw
 have Vy := yW (s := (cU (db 1 0 (tW s).2)).2) 4
 have Vx := mQ (s := (dK 4 (cU (db 1 0 (tW s).2)).2).2) (B := 10000) Om
 exact ⟨Nat.le_trans h3.1 Om, Nat.le_trans h5.1 Om, Nat.le_trans h6.1 Om, Nat.le_trans h9.1 Om, Nat.le_trans Vx.1 Om⟩
theorem zM {gm : Nat} {cs : Array Value} {x : kb} (w : World) (B : ao w gm 42 cs) (hz : cs.size = 7) (H : ir w cs x) :
  Ct 110 #[.pointer (some ⟨gm, 0, none⟩)] w fun e w' => e = .returned (.bool (decide (jq x))) ∧ Ext w w' := by
 have E := Ext.refl w
 refine ai 4 func110 rfl rfl rfl rfl ?_
 intro _ hret
 refine au 7 ?_
 refine ak (aY rfl Tn.u rfl (by rw [hz]; kernel_rfl) B) ?_
 refine aB func111 rfl (rD _ H) ?_
 rintro e _ ⟨rfl, ex⟩
 replace E := E.ext ex
 refine aU ?_
 refine hret rfl ?_
 exact ⟨rfl, E⟩
theorem CT {A : Oa} {n c : Nat} {b : Lb} (w : World) (HA : Bs w A n b) (hc : n ≤ c) (hn : n ≤ 1048576) :
  Ct 43 #[.slice A n c] w fun e w' => ∃ cs, e = .returned (.tuple #[.agg cs, .int .u8 (((cW b).2 : Nat) : Int)]) ∧ iX w.heap.size w' cs (cW b).1 ∧ (cW b).2 < 256 ∧ Ext w w' := by
 have F := aA.refl [] w
 have KA : Kp w.heap.size [] (fun w => Bs w A n b) w := Kp.bs HA (by simp)
 have hX : cW b = cN kb.zero (j9 (.ok b)) (decide (jq (j9 (.ok b)).1)) := rfl
 refine dn (s := 7) 17 func43 rfl rfl rfl underlying42 rfl Kr rfl ?_
 intro _ hret
 refine aU ?_
 intro _ VB B2 Vy ex
 have VF := ex.size
 replace F := F.grow ex Vy
 replace KA := KA.grow ex Vy
 refine aU ?_
 intro VD Vx B4 Vw ex
 have VG := B4.lt
 have VC : VB < Vx := Nat.lt_of_lt_of_le B2.lt Vw
 replace F := F.grow ex Vw
 replace KA := KA.grow ex Vw
 replace B2 := B2.grow ex Vw
 refine au 4 ?_
 refine ak (jJ rfl) ?_
 refine au 8 ?_
 refine ak (jJ rfl) ?_
 have q2 := B2.lt; have q4 := B4.lt; have q5 := F.size
 replace B4 := B4.congr (cs' := lV) rfl
 refine aB func95 rfl (uO (N := w.heap.size) (V := [Vx]) (t := (j9 (.ok b)).2) (okv := decide (jq (j9 (.ok b)).1)) (us := [.pointer (some ⟨Vx, 0, none⟩)]) (vs := [.pointer (some ⟨Vx, 0, none⟩)]) (Ψ := fun gi w => ∃ cs, ao w Vx 42 cs ∧ cs.size = 7 ∧ Kp w.heap.size [gi, Vx] (fun w => iX VD.heap.size w cs (j9 (.ok b)).1) w) _ (KA.mono (by simp)) hc Om So func106 rfl rfl func110 rfl rfl (fun w1 gi gr E hi hr H hS => xQ w1 H (B4.ext E) Om Om hi hr E.size) (fun gi w1 w2 hi ⟨cs, B, hz, K⟩ C => ⟨cs, B.bo C So, hz, (K.bo C (by simp)).rM C.size (Nat.le_refl _)⟩) (fun gi w1 ⟨cs, B, hz, K⟩ _ => zM w1 B hz (iX.at K.out))) ?_
 rintro e _ ⟨rfl, ⟨gi, _, cs, BM, hz, KM⟩, Vz, ex⟩
 obtain ⟨F,B2⟩ := gA ex F B2
 have VA := (iX.kk KM.out (S := [VB, Vx]) So); obtain ⟨_, ho⟩ := iX.size KM.out; clear KM
 refine aU ?_
 refine al rfl (fun VE => ?_) (fun VE => ?_)
 ·have e1 := xd (z := kb.zero) (p := j9 (.ok b)) (ok := decide (jq (j9 (.ok b)).1)) Om
  refine au 2 ?_
  refine ak (aq rfl (cells := lV) Kr) ?_
  refine aU ?_
  intro _ D cg
  have ex := aA.one cg
  clear cg
  replace F := F.bo ex
  replace B2 := D; clear D
  replace B2 := B2.congr (cs' := lV) rfl
  refine aU ?_
  refine hret rfl rfl B2 rfl ?_
  rw [hX, e1]; exact ⟨_, rfl, iX.zero _ _, (by dsimp only; split; exact Vz; split <;> omega), (F.drop Om).drop Om |>.aD (by simp)⟩
 ·have e1 := sG (z := kb.zero) (p := j9 (.ok b)) (ok := decide (jq (j9 (.ok b)).1)) Om
  refine au 4 ?_
  refine ak (aY rfl Tn.u rfl (by rw [hz]; kernel_rfl) BM) ?_
  refine ag (aL (o := 0) rfl rfl (by rw [hz]; kernel_rfl) B2 (by rw [hz]; decide) (aS ho)) rfl ?_
  rintro _ _ ⟨rfl, D2, cg⟩
  have ex := aA.one cg
  clear cg; rw [xt (k := 7) rfl hz] at D2
  obtain ⟨F,VA⟩ := gA ex F VA
  refine aU ?_
  refine hret rfl rfl D2 hz ?_
  rw [hX, e1]; exact ⟨_, rfl, iX.mono VA.out Om, (by show 0 < 256; omega), (F.drop Om).drop Om |>.aD (by simp)⟩
end
section
open Go.RowKit Tryz
attribute [local irreducible] Y Ef WL WC WK WQ WM cE WN WF dc WJ gJ
open Wire Nd M20
section
variable {cs ds : Array Value} {i : kb} {x : kX}
theorem tE (w : World) (H : uW w cs x) :
  Ct 8 #[.agg cs] w fun e w' => e = .returned (.bool (decide x.Small)) ∧ Ext w w' := by
 obtain ⟨h0, h1, rfl, a0, a1⟩ := H
 have l0 := a0.1; have l1 := a1.1
 have E := Ext.refl w
 refine ai 55 func8 rfl rfl rfl rfl ?_
 intro _ hret
 refine au 2 ?_
 refine ag (iJ rfl rfl) rfl ?_
 rintro _ Vw ⟨Vx, rfl, B1, _, ex⟩
 have VB := B1.lt; have VC := ex.size
 replace E := E.ext ex
 refine au 10 ?_
 refine az (fun n' L wr => ∃ i : Nat, L = [(1, .pointer (some ⟨Vx, 0, none⟩)), (3, .int .i64 (i : Int))] ∧ n' = h0.n - i ∧ (i ≤ h0.n ∧ i ≤ 70 ∧ wr = Vw ∧ ∀ y ∈ x.guests.take i, y.Small)) _ _ ⟨0, rfl, rfl, by omega, by omega, rfl, by simp⟩ Ls ?_
 rintro _ n' L wr ⟨i, rfl, rfl, _, _, rfl, hall⟩ Vy
 refine au 4 ?_
 refine ak (dB 0 1 0 0 Tn.u) ?_
 refine ak (af rfl Tn.u rfl (B1.get (i := 0) rfl)) ?_
 refine au 1 ?_
 refine aR (dA rfl rfl) rfl (fun p0 => ?_) (fun p0 => ?_)
 ·refine au 2 ?_
  refine gE 9 (dA rfl rfl) ?_
  refine au 3 ?_
  refine al rfl (fun Vz => ?_) (fun Vz => ?_)
  ·obtain ⟨b1, o1, VD, y, e1, _, hx, hcz, hR, hcx⟩ := a0.JK Om (i := i) Om
   obtain ⟨f0, f1, f2, rfl, v0, v1, v2⟩ := hR
   have m0 := v0.1; have m1 := v1.1; have m2 := v2.1
   refine au 6 ?_
   refine ak (dB 0 1 0 0 Tn.u) ?_
   refine ak (af rfl Tn.u rfl (B1.get (i := 0) rfl)) ?_
   refine au 1 ?_
   refine ak (mg (s := 3) (j := i) e1 rfl rfl Tn.u Kr rfl Om) ?_
   refine ak (dM (o := 0) (s := 1) rfl underlying37 rfl Kr rfl rfl) ?_
   refine ak (af rfl Tn.u rfl (E.EU (hcx 0 _ rfl))) ?_
   refine au 1 ?_
   refine aR (gd rfl rfl) rfl (fun n0 => ?_) (fun n0 => ?_)
   ·refine au 24 ?_
    refine bR rfl rfl ?_
    refine au 11 ?_
    refine hret rfl ?_
    exact ⟨aI fun h => by have := (h.2.1 y (yL hx)).1; omega, E⟩
   ·refine au 1 ?_
    refine gE 23 (dB 0 1 0 0 Tn.u) ?_
    refine gE 23 (af rfl Tn.u rfl (B1.get (i := 0) rfl)) ?_
    refine au 1 ?_
    refine gE 23 (mg (s := 3) (j := i) e1 rfl rfl Tn.u Kr rfl Om) ?_
    refine gE 23 (dM (o := 1) (s := 2) rfl underlying37 rfl Kr rfl rfl) ?_
    refine gE 23 (dM (o := 0) (s := 1) rfl underlying35 rfl Kr rfl rfl) ?_
    refine gE 23 (af rfl Tn.u rfl (E.EU (hcx 1 _ rfl))) ?_
    refine au 1 ?_
    refine aJ 23 rfl rfl (gd rfl rfl) rfl (fun n1 => ?_) (fun n1 => ?_)
    ·refine au 14 ?_
     refine bR rfl rfl ?_
     refine au 11 ?_
     refine hret rfl ?_
     exact ⟨aI fun h => by have := (h.2.1 y (yL hx)).2.1; omega, E⟩
    ·refine au 2 ?_
     refine gE 34 (dB 0 1 0 0 Tn.u) ?_
     refine gE 34 (af rfl Tn.u rfl (B1.get (i := 0) rfl)) ?_
     refine au 1 ?_
     refine gE 34 (mg (s := 3) (j := i) e1 rfl rfl Tn.u Kr rfl Om) ?_
     refine gE 34 (dM (o := 1) (s := 2) rfl underlying37 rfl Kr rfl rfl) ?_
     refine gE 34 (dM (o := 1) (s := 1) rfl underlying35 rfl Kr rfl rfl) ?_
     refine gE 34 (af rfl Tn.u rfl (E.EU (hcx 2 _ rfl))) ?_
     refine au 1 ?_
     refine gE 34 (gd rfl rfl) ?_
     refine au 3 ?_
     refine al rfl (fun VA => ?_) (fun VA => ?_)
     ·refine au 11 ?_
      refine hret rfl ?_
      exact ⟨aI fun h => by have := (h.2.1 y (yL hx)).2.2; omega, E⟩
     ·refine au 5 ?_
      refine ak (aO rfl rfl (bc Om Om)) ?_
      refine au 2 ?_
      refine ae ?_
      refine Vy _ _ ⟨i + 1, rfl, rfl, by omega, by omega, rfl, DI hx hall ⟨by omega, by omega, by omega⟩⟩ Om Ls
  ·refine au 7 ?_
   refine ak (dB 0 1 0 0 Tn.u) ?_
   refine ak (af rfl Tn.u rfl (B1.get (i := 0) rfl)) ?_
   refine au 1 ?_
   refine aR (dA rfl rfl) rfl (fun z0 => ?_) (fun z0 => ?_)
   ·refine au 1 ?_
    refine gE 49 (dB 1 1 0 1 Tn.u) ?_
    refine gE 49 (af rfl Tn.u rfl (B1.get (i := 1) rfl)) ?_
    refine au 1 ?_
    refine gE 49 (lO rfl rfl) ?_
    refine au 5 ?_
    refine hret rfl ?_
    exact ⟨cV ⟨fun h => ⟨by omega, wC Om hall, by omega⟩, fun h => by have := h.2.2; omega⟩, E⟩
   ·refine au 10 ?_
    refine hret rfl ?_
    exact ⟨aI fun h => by have := h.1; omega, E⟩
 ·refine au 6 ?_
  refine aX rfl rfl ?_
  refine au 7 ?_
  refine ak (dB 0 1 0 0 Tn.u) ?_
  refine ak (af rfl Tn.u rfl (B1.get (i := 0) rfl)) ?_
  refine au 1 ?_
  refine aR (dA rfl rfl) rfl (fun z0 => ?_) (fun z0 => ?_)
  ·refine au 1 ?_
   refine gE 49 (dB 1 1 0 1 Tn.u) ?_
   refine gE 49 (af rfl Tn.u rfl (B1.get (i := 1) rfl)) ?_
   refine au 1 ?_
   refine gE 49 (lO rfl rfl) ?_
   refine au 5 ?_
   refine hret rfl ?_
   exact ⟨cV ⟨fun h => ⟨by omega, wC Om hall, by omega⟩, fun h => by have := h.2.2; omega⟩, E⟩
  ·refine au 10 ?_
   refine hret rfl ?_
   exact ⟨aI fun h => by have := h.1; omega, E⟩
theorem vR {a b : kb} (w : World) (H : ir w cs a) (K : ir w ds b) (hf : a.Fit) (hg : b.Fit) :
  Ct 24 #[.agg cs, .agg ds] w fun e w' => e = .returned (.bool (decide (a = b))) ∧ Ext w w' := by
 have HC := (j8.ctx H).at
 have KC := (j8.ctx K).at
 obtain ⟨gr, tr, u, tg, sg, rfl, he, hz, h1, h2, h3, h4, h5⟩ := H
 obtain ⟨Vw, Vx, u', Vy, Vz, rfl, VA, VB, k1, k2, k3, k4, k5⟩ := K
 obtain ⟨f1, f2, f3, f4, f5⟩ := hf
 obtain ⟨g1, g2, g3, g4, g5⟩ := hg
 have n4 := h4.1; have n5 := h5.1; have m4 := k4.1; have m5 := k5.1
 have E := Ext.refl w
 refine ai 31 func24 rfl rfl rfl rfl ?_
 intro _ hret
 refine aU ?_
 intro _ _ B2 _ ex
 replace E := E.ext ex
 refine aU ?_
 intro _ _ B3 _ ex
 obtain ⟨E,B2⟩ := ba ex E B2
 refine aU ?_
 refine aB func64 rfl (rS _ (HC.ext E) (KC.ext E) ⟨f1, f2, f3⟩ ⟨g1, g2, g3⟩) ?_
 rintro e _ ⟨rfl, ex⟩
 obtain ⟨E,B2,B3⟩ := bC ex E B2 B3
 refine au 1 ?_
 refine aR (aQ rfl) rfl (fun q0 => ?_) (fun q0 => ?_)
 ·refine aU ?_
  refine df 10 rfl rfl func26 rfl rfl rfl (km (Bs.ext h4 E) (Bs.ext k4 E) Om Om) rfl ?_
  rintro e _ ⟨rfl, ex⟩
  obtain ⟨E,B2,B3⟩ := bC ex E B2 B3
  refine au 2 ?_
  refine aR (aQ rfl) rfl (fun q1 => ?_) (fun q1 => ?_)
  ·refine au 6 ?_
   refine aR (aQ rfl) rfl (fun q2 => ?_) (fun q2 => ?_)
   ·refine aU ?_
    refine df 24 rfl rfl func26 rfl rfl rfl (km (Bs.ext h5 E) (Bs.ext k5 E) Om Om) rfl ?_
    rintro e _ ⟨rfl, ex⟩
    replace E := E.ext ex
    refine aU ?_
    refine hret rfl ?_
    exact ⟨cV ⟨fun h => EE.2 ⟨q0, q1, q2, h⟩, fun h => by rw [h]⟩, E⟩
   ·refine aU ?_
    refine hret rfl ?_
    exact ⟨aI fun h => q2 (by rw [h]), E⟩
  ·refine aU ?_
   refine hret rfl ?_
   exact ⟨aI fun h => q1 (by rw [h]), E⟩
 ·refine aU ?_
  refine hret rfl ?_
  exact ⟨aI fun h => q0 (by rw [h]), E⟩
theorem BE (w : World) (H : ir w cs i) :
  Ct 19 #[.agg cs] w fun e w' => e = .returned (.bool (decide (jq i))) ∧ Ext w w' := by
 obtain ⟨gr, tr, u, tg, sg, rfl, he, hz, a, b, c, d, k⟩ := H
 have n1 := a.1; have n2 := b.1; have n3 := c.1; have n4 := d.1; have n5 := k.1
 have E := Ext.refl w
 refine ai 44 func19 rfl rfl rfl rfl ?_
 intro _ hret
 refine aU ?_
 intro _ _ _ _ ex
 replace E := E.ext ex
 refine au 9 ?_
 refine aR (lO rfl rfl) rfl (fun q1 => ?_) (fun q1 => ?_)
 ·refine au 5 ?_
  refine aJ 8 rfl rfl (cL rfl rfl) rfl (fun q2 => ?_) (fun q2 => ?_)
  ·refine au 6 ?_
   refine aJ 15 rfl rfl (cL rfl rfl) rfl (fun q3 => ?_) (fun q3 => ?_)
   ·refine au 5 ?_
    refine aJ 22 rfl rfl (cL rfl rfl) rfl (fun q4 => ?_) (fun q4 => ?_)
    ·refine au 4 ?_
     refine aJ 28 rfl rfl (sN rfl rfl) rfl (fun q5 => ?_) (fun q5 => ?_)
     ·refine au 4 ?_
      refine aJ 33 rfl rfl (lO rfl rfl) rfl (fun q6 => ?_) (fun q6 => ?_)
      ·refine aU ?_
       refine hret rfl ?_
       exact ⟨cV ⟨fun h => ⟨by omega, by omega, by omega, by omega, ⟨by omega, by omega⟩, by omega⟩, fun h => by have := h.2.2.2.2.2; omega⟩, E⟩
      ·refine aU ?_
       refine hret rfl ?_
       exact ⟨aI fun h => by have := h.2.2.2.2.1.2; omega, E⟩
     ·refine aU ?_
      refine hret rfl ?_
      exact ⟨aI fun h => by have := h.2.2.2.2.1.1; omega, E⟩
    ·refine aU ?_
     refine hret rfl ?_
     exact ⟨aI fun h => by have := h.2.2.2.1; omega, E⟩
   ·refine aU ?_
    refine hret rfl ?_
    exact ⟨aI fun h => by have := h.2.2.1; omega, E⟩
  ·refine aU ?_
   refine hret rfl ?_
   exact ⟨aI fun h => by have := h.2.1; omega, E⟩
 ·refine aU ?_
  refine hret rfl ?_
  exact ⟨aI fun h => by have := h.1; omega, E⟩
end
end
end Go.Proofs.YtgfafidlkldeaaaGreat
