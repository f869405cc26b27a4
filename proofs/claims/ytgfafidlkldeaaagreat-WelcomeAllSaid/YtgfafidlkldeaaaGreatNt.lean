/- Plain number theory: Fermat's little theorem and a test of primes (Pocklington's). No program in sight, no condition of mine. -/
import Derived.Test.YtgfafidlkldeaaaGreatMsW
import Derived.Test.YtgfafidlkldeaaaGreatAu
set_option linter.unusedVariables false
set_option linter.unusedSimpArgs false
set_option maxHeartbeats 4000000
set_option maxRecDepth 4000
namespace Go.Proofs.YtgfafidlkldeaaaGreat
open Go.RowKit Tryz
attribute [local irreducible] Ef WC WF WG WJ WK WL WM WN WQ Y cu db iC lW
variable {cs ds : Array Value} {F a b base c gm j k m n q r x : Nat} {f g h s : Nat → Nat} {i : fK}
section
open Wire Nd M20
section
variable {x : nG} {g : Nat} {t : TypeId}
theorem jW (w : aa9) (H : eP w cs i) :
  Ct 111 #[.agg cs] w (ck w (.bool (decide (dk i)))) := by
 obtain ⟨gr, tr, u, tg, sg, rfl, he, hz, a, b, c, d, k⟩ := H;have n1 := a.1; have n2 := b.1; have n3 := c.1; have n4 := d.1; have n5 := k.1;have E := Ext.refl w;refine ai 39 func111 ?_;intro _ aa4;refine aU ?_;intro _ _ B1 _ ex;replace E := E.ext ex;refine aU ?_;intro _ _ D3 YU exA;refine aU ?_;intro _ _ cg;have ex := exA.aw cg YU; clear cg exA D3;obtain ⟨E,B1⟩ := aS ex E B1;refine au 7 ?_;refine bL (RL rfl rfl) rfl (fun q1 => ?_) (fun q1 => ?_)
 ·refine au 4 ?_;refine bN 10 rfl rfl (ez rfl rfl) rfl (fun q2 => ?_) (fun q2 => ?_)
  ·refine au 5 ?_;refine bN 16 rfl rfl (ez rfl rfl) rfl (fun q3 => ?_) (fun q3 => ?_)
   ·refine au 5 ?_;refine bN 22 rfl rfl (ez rfl rfl) rfl (fun q4 => ?_) (fun q4 => ?_)
    ·refine aU ?_;refine eT 28 rfl rfl func183 rfl rfl rfl (Js _ _) rfl ?_;rintro e _ ⟨rfl, ex⟩;obtain ⟨E,B1⟩ := aS ex E B1;refine au 2 ?_;refine kQ (aL rfl) rfl (fun q5 => ?_) (fun q5 => ?_)
     ·refine aU ?_;exact aa4 rfl ⟨dZ ⟨fun h => ⟨Om, Om, Om, Om, (by simpa using q5), Om⟩, fun h => by have := h.2.2.2.2.2; omega⟩, E⟩
     refine aU ?_;exact aa4 rfl ⟨cW fun h => (by rw [decide_eq_true h.2.2.2.2.1] at q5; cases q5), E⟩
    refine aU ?_;exact aa4 rfl ⟨cW fun h => by have := h.2.2.2.1; omega, E⟩
   refine aU ?_;exact aa4 rfl ⟨cW fun h => by have := h.2.2.1; omega, E⟩
  refine aU ?_;exact aa4 rfl ⟨cW fun h => by have := h.2.1; omega, E⟩
 refine aU ?_;exact aa4 rfl ⟨cW fun h => by have := h.1; omega, E⟩
theorem r6 (w : aa9) (H : eP w cs i) (hs : i.ctx.Small) (ht : i.tag.length ≤ 1000) :
  Ct 127 #[.agg cs] w fun e w' => ∃ A' k c', e = .returned (.slice A' k c') ∧ Row w' w.heap.size 5 A' k c' ((jX i).map bv) ∧ k ≤ 2000 ∧ Ext w w' := by
 have HC := (mV.ctx H).at;obtain ⟨gr, tr, u, tg, sg, rfl, he, hz, a, b, c, d, k⟩ := H;have n4 := d.1;have E := Ext.refl w;refine ai 15 func127 ?_;intro _ aa4;refine aU ?_;intro Y0 YU B1 _ ex;have Zc := B1.lt; have YZ := ex.size;replace E := E.ext ex;refine aU ?_;have X := Ext.refl Y0;have Bo := B1;refine zP [YU] Kr 13 rfl ?_; intro Zd ex Ze;obtain ⟨E,B1,X⟩ := bh ex E B1 X;refine qt 0 rfl Kr (fun wr (kr : Kept [YU] _ wr) => eW 0 4 0 0 Tn.u) rfl ?_;refine qt 1 rfl Kr (fun wr (kr : Kept [YU] _ wr) => xE (o := 0) (s := 4) rfl Tn.u rfl Kr (B1.NH kr) rfl) rfl ?_;refine qt 5 rfl Kr (fun wr (kr : Kept [YU] _ wr) => eW 4 1 0 4 Tn.u) rfl ?_;refine qt 6 rfl Kr (fun wr (kr : Kept [YU] _ wr) => ah rfl Tn.u rfl ((B1.NH kr).get (i := 4) rfl)) rfl ?_;refine qt 8 rfl Kr (fun wr (kr : Kept [YU] _ wr) => eW 5 1 0 5 Tn.u) rfl ?_;refine qt 9 rfl Kr (fun wr (kr : Kept [YU] _ wr) => ah rfl Tn.u rfl ((B1.NH kr).get (i := 5) rfl)) rfl ?_;refine qt 10 rfl Kr (fun wr (kr : Kept [YU] _ wr) => bc rfl Tn.u Tn.u (KY i.frm)) rfl ?_;refine JU 2 3 Kr ?_ ?_
 ·skip;have YV := X.size;refine ix rfl func101 rfl rfl rfl (jV _ _ _ (HC.ext E) hs) rfl ?_;rintro e w2 ⟨A2, k2, c2, rfl, R2, Y2, ex⟩;refine ⟨_, rfl, Kept.ext ex (oe B1.lt uN), ?_⟩;obtain ⟨E,B1,X⟩ := bh ex E B1 X;replace R2 := R2.lower YV;refine gJ 3 Kr ?_; refine qi rfl (aF (z := .int .u8 0) underlying23 Kr rfl rfl rfl rfl rfl) rfl ?_;rintro _ w3 ⟨g3, rfl, B3, Y3, ex⟩;refine ⟨Kept.ext ex (oe B1.lt uN), ?_⟩;obtain ⟨E,B1,X,R2⟩ := bG ex E B1 X R2;refine gJ 4 Kr ?_; refine qi rfl (aT rfl rfl bV R2 (At.fA (vs := [bv 0]) (B3.congr (by rfl))) rfl (by intro u hu; simp only [List.mem_singleton] at hu; subst hu; rfl) Om Om X.size) rfl ?_;rintro _ w4 ⟨A4, c4, rfl, R4, be, YW, hgl⟩;have kp := Kept.own YW (oe B1.lt uN) (oe (R2.vz Bo.lt) uN);refine ⟨kp, ?_⟩;replace B1 := B1.NH kp;replace X := X.trans be; replace E := E.trans ⟨be.os, be.tape, be.output, be.size, fun k hk => be.block k Om⟩;replace R4 : Row _ _ _ _ _ _ ((cy i.ctx ++ [0]).map bv) := R4.congr rfl (by simp);have YX := X.size;refine gJ 7 Kr ?_; refine ix rfl func87 rfl rfl rfl (dy A4 tg.A _ c4 tg.n tg.c _ _ _ R4.bs Om (Bs.ext d E) Om) rfl ?_;rintro e w5 ⟨A5, k5, c5, rfl, R5, Za, ex⟩;refine ⟨_, rfl, Kept.ext ex (oe B1.lt uN), ?_⟩;obtain ⟨E,B1,X⟩ := bh ex E B1 X;have Zb := bH tg.n; replace R5 := R5.lower YX;have YY := X.size;refine gJ 11 Kr ?_; refine ix rfl func163 rfl rfl rfl (jE A5 k5 c5 4 (PN i.frm) _ _ R5.bs Om Om (Mv _)) rfl ?_;rintro e w6 ⟨A6, c6, rfl, R6, ex⟩;refine ⟨_, rfl, Kept.ext ex (oe B1.lt uN), ?_⟩;replace E := E.ext ex;refine qt 12 rfl Kr (fun wr (kr : Kept [YU] _ wr) => di rfl) rfl ?_;refine sO Kr ?_;refine aU ?_;exact aa4 rfl ⟨A6, _, c6, rfl, ((R6.lower YY).lower YZ).congr rfl (by unfold jX; rfl), Om, E⟩
 skip;refine qi rfl (aF (z := .int .u8 0) underlying23 Kr rfl rfl rfl rfl rfl) rfl ?_;rintro _ w3 ⟨g3, rfl, B3, Y3, ex⟩;refine ⟨Kept.ext ex (oe B1.lt uN), ?_⟩;obtain ⟨E,B1,X⟩ := bh ex E B1 X;have YV := X.size;refine gJ 2 Kr ?_; refine ix rfl func101 rfl rfl rfl (jV _ _ _ (HC.ext E) hs) rfl ?_;rintro e w2 ⟨A2, k2, c2, rfl, R2, Y2, ex⟩;refine ⟨_, rfl, Kept.ext ex (oe B1.lt uN), ?_⟩;obtain ⟨E,B1,X,B3⟩ := bG ex E B1 X B3;replace R2 := R2.lower YV;refine gJ 4 Kr ?_; refine qi rfl (aT rfl rfl bV R2 (At.fA (vs := [bv 0]) (B3.congr (by rfl))) rfl (by intro u hu; simp only [List.mem_singleton] at hu; subst hu; rfl) Om Om X.size) rfl ?_;rintro _ w4 ⟨A4, c4, rfl, R4, be, YW, hgl⟩;have kp := Kept.own YW (oe B1.lt uN) (oe (R2.vz Bo.lt) uN);refine ⟨kp, ?_⟩;replace B1 := B1.NH kp;replace X := X.trans be; replace E := E.trans ⟨be.os, be.tape, be.output, be.size, fun k hk => be.block k Om⟩;replace R4 : Row _ _ _ _ _ _ ((cy i.ctx ++ [0]).map bv) := R4.congr rfl (by simp);have YX := X.size;refine gJ 7 Kr ?_; refine ix rfl func87 rfl rfl rfl (dy A4 tg.A _ c4 tg.n tg.c _ _ _ R4.bs Om (Bs.ext d E) Om) rfl ?_;rintro e w5 ⟨A5, k5, c5, rfl, R5, Za, ex⟩;refine ⟨_, rfl, Kept.ext ex (oe B1.lt uN), ?_⟩;obtain ⟨E,B1,X⟩ := bh ex E B1 X;have Zb := bH tg.n; replace R5 := R5.lower YX;have YY := X.size;refine gJ 11 Kr ?_; refine ix rfl func163 rfl rfl rfl (jE A5 k5 c5 4 (PN i.frm) _ _ R5.bs Om Om (Mv _)) rfl ?_;rintro e w6 ⟨A6, c6, rfl, R6, ex⟩;refine ⟨_, rfl, Kept.ext ex (oe B1.lt uN), ?_⟩;replace E := E.ext ex;refine qt 12 rfl Kr (fun wr (kr : Kept [YU] _ wr) => di rfl) rfl ?_;refine sO Kr ?_;refine aU ?_;exact aa4 rfl ⟨A6, _, c6, rfl, ((R6.lower YY).lower YZ).congr rfl (by unfold jX; rfl), Om, E⟩
theorem Ib (w : aa9) (B : aq w g t cs) (H : eP w cs i) (hs : i.ctx.Small) (ht : i.tag.length ≤ 1000) :
  Ct 133 #[.pointer (cf g)] w fun e w' => ∃ A k c, e = .returned (.slice A k c) ∧ (Bs w' A k (jX i) ∧ k ≤ c ∧ k ≤ 2000) ∧ Ext w w' := by
 have HP := H;obtain ⟨gr, tr, u, tg, sg, rfl, _⟩ := H;have E := Ext.refl w;refine ai 4 func133 ?_;intro _ aa4;refine aU ?_;refine aB func127 rfl (r6 _ (HP.ext E) hs ht) ?_;rintro e _ ⟨A2, k2, c2, rfl, R2, YU, ex⟩;replace E := E.ext ex;refine aU ?_;exact aa4 rfl ⟨A2, k2, c2, rfl, ⟨R2.bs, R2.cap, YU⟩, E⟩
theorem Et (w : aa9) (B : aq w g t cs) (H : eP w cs i) (hs : i.ctx.Small) (ht : i.tag.length ≤ 1000) (h6 : i.sig.length ≤ 1000) :
  Ct 126 #[.pointer (cf g)] w fun e w' => ∃ A k c, e = .returned (.slice A k c) ∧ (Bs w' A k (mb i) ∧ k ≤ c ∧ k ≤ 4000) ∧ Ext w w' := by
 have HP := H;obtain ⟨gr, tr, u, tg, sg, rfl, _, _, _, _, _, _, k⟩ := H;have n5 := k.1;have E := Ext.refl w;refine ai 7 func126 ?_;intro _ aa4;refine aU ?_;refine aD Kr 6 rfl ?_; intro YU ex YV;obtain ⟨E,B⟩ := aS ex E B;refine zm [0, 2, 3] ?_;refine bC 1 rfl func127 rfl (r6 _ (HP.ext E) hs ht) ?_;rintro e _ ⟨A2, k2, c2, rfl, R2, _, ex⟩;replace E := E.ext ex;refine aU ?_;refine bC 4 rfl func87 rfl (dy A2 sg.A k2 c2 sg.n sg.c _ _ _ R2.bs Om (Bs.ext k E) Om) ?_;rintro e _ ⟨A3, k3, c3, rfl, R3, _, ex⟩;replace E := E.ext ex;have YW := bH sg.n;refine zm [5] ?_;exact aa4 rfl ⟨A3, k3, c3, rfl, ⟨R3.bs, R3.cap, Om⟩, E⟩
theorem pj (w : aa9) (H : eP w cs i) (hs : i.ctx.Small) (ht : i.tag.length ≤ 1000) :
  Ct 62 #[.agg cs] w fun e w' => ∃ A k c z, e = .returned (.tuple #[.slice A k c, .int .u8 ((z : Nat) : Int)]) ∧ Told w' (dk i) (jX i) A k z ∧ k ≤ c ∧ k ≤ 2000 ∧ Ext w w' := by
 have HP := H;obtain ⟨gr, tr, u, tg, sg, rfl, _⟩ := H;have E := Ext.refl w;refine aZ 10 func62 ?_;intro _ aa4;refine aU ?_;intro _ YU B1 _ ex;replace E := E.ext ex;refine aU ?_;refine aB func111 rfl (jW _ (HP.ext E)) ?_;rintro e _ ⟨rfl, ex⟩;obtain ⟨E,B1⟩ := aS ex E B1;refine au 1 ?_;refine ak (gC (xs := [.tmp 1]) (vs := [.pointer (cf YU)]) rfl) ?_;refine aB func83 rfl (mF (us := [.pointer (cf YU)]) (Ψ := fun w A k c => Bs w A k (jX i) ∧ k ≤ c ∧ k ≤ 2000) _ func133 rfl rfl (fun hok w1 e1 => Ib w1 (B1.ext e1) ((HP.ext E).ext e1) hs ht)) ?_;rintro e _ ⟨A3, k3, c3, z3, rfl, T3, N3, ex⟩;replace E := E.ext ex;refine aU ?_;exact aa4 rfl rfl ⟨A3, k3, c3, z3, rfl, ⟨fun o => ⟨(T3 (decide_eq_true o)).1, (T3 (decide_eq_true o)).2.1⟩, fun o => ⟨(N3 (decide_eq_false o)).1, (N3 (decide_eq_false o)).2.2.1⟩⟩, (by by_cases o : dk i; exact (T3 (decide_eq_true o)).2.2.1; have h := N3 (decide_eq_false o); omega), (by by_cases o : dk i; exact (T3 (decide_eq_true o)).2.2.2; have h := N3 (decide_eq_false o); omega), E⟩
theorem vd (w : aa9) (H : eP w cs i) (hs : i.ctx.Small) (ht : i.tag.length ≤ 1000) (h6 : i.sig.length ≤ 1000) :
  Ct 59 #[.agg cs] w fun e w' => ∃ A k c z, e = .returned (.tuple #[.slice A k c, .int .u8 ((z : Nat) : Int)]) ∧ Told w' (dk i) (mb i) A k z ∧ k ≤ c ∧ k ≤ 4000 ∧ Ext w w' := by
 have HP := H;obtain ⟨gr, tr, u, tg, sg, rfl, _⟩ := H;have E := Ext.refl w;refine aZ 10 func59 ?_;intro _ aa4;refine aU ?_;intro _ YU B1 _ ex;replace E := E.ext ex;refine aU ?_;refine aB func111 rfl (jW _ (HP.ext E)) ?_;rintro e _ ⟨rfl, ex⟩;obtain ⟨E,B1⟩ := aS ex E B1;refine au 1 ?_;refine ak (gC (xs := [.tmp 1]) (vs := [.pointer (cf YU)]) rfl) ?_;refine aB func83 rfl (mF (us := [.pointer (cf YU)]) (Ψ := fun w A k c => Bs w A k (mb i) ∧ k ≤ c ∧ k ≤ 4000) _ func126 rfl rfl (fun hok w1 e1 => Et w1 (B1.ext e1) ((HP.ext E).ext e1) hs ht h6)) ?_;rintro e _ ⟨A3, k3, c3, z3, rfl, T3, N3, ex⟩;replace E := E.ext ex;refine aU ?_;exact aa4 rfl rfl ⟨A3, k3, c3, z3, rfl, ⟨fun o => ⟨(T3 (decide_eq_true o)).1, (T3 (decide_eq_true o)).2.1⟩, fun o => ⟨(N3 (decide_eq_false o)).1, (N3 (decide_eq_false o)).2.2.1⟩⟩, (by by_cases o : dk i; exact (T3 (decide_eq_true o)).2.2.1; have h := N3 (decide_eq_false o); omega), (by by_cases o : dk i; exact (T3 (decide_eq_true o)).2.2.2; have h := N3 (decide_eq_false o); omega), E⟩
end
def ku : Array Value := kA ar 0 ar ar ar 0 ar
theorem kL.zero (base : Nat) (w : aa9) : kL base w ku fK.zero := ⟨_, _, _, _, _, rfl, (by decide), (by decide), Fb.nil _ _ _, Fb.nil _ _ _, Fb.nil _ _ _, Fb.nil _ _ _, Fb.nil _ _ _⟩
theorem kL.size {w : aa9} {x : fK} (h : kL base w cs x) : cs.size = 7 ∧ Lr cs.toList = true := by obtain ⟨g, t, u, tg, sg, rfl, _⟩ := h; exact ⟨rfl, rfl⟩
theorem Cp {N gi gr M : Nat} {s : St} (w : aa9) (H : In N [gi, gr, gm] w gi gr s) (B : aq w gm 42 ku) (hi : gi ≠ gm) (hr : gr ≠ gm) (YU : M ≤ gi) (YV : M ≤ gr) (hM : M ≤ w.heap.size) :
  Ct 106 #[.pointer (cf gi), .pointer (cf gm)] w fun e w' => e = .returned (.tuple #[]) ∧ In N [gi, gr, gm] w' gi gr (nI s).2 ∧ (∃ cs, aq w' gm 42 cs ∧ cs.size = 7 ∧ Kp w'.heap.size [gi, gm] (fun w => kL M w cs (nI s).1) w') ∧ Ud M [gm] w w' := by
 have hli := H.VO;have hlr := H.Vq;have hlm := B.lt;have F := aI.refl [gr, gi, gm] w
 obtain ⟨c, hc⟩ : ∃ c, c = DM s := ⟨_, rfl⟩
 obtain ⟨t, ht⟩ : ∃ t, t = iE (jA 1 0 c.2) := ⟨_, rfl⟩
 obtain ⟨f, hf⟩ : ∃ f, f = iR 4 t.2 := ⟨_, rfl⟩
 have hX : nI s = (⟨c.1, t.1, (f.1 : Int), (iE f.2).1⟩, (iE f.2).2) := by rw [hf, ht, hc]; rfl
 have YW : f.1 < 4294967296 := by rw [hf]; exact Fm 4 _
 refine eX 18 func106 ?_;intro _ aa4;refine aU ?_;refine aB func107 rfl (Nh _ H) ?_;rintro e _ ⟨cs, rfl, HC, H1, ex⟩;refine au 1 ?_;obtain ⟨F,B⟩ := jT ex F B;rw [← hc] at H1 HC; obtain ⟨g, tr, u, rfl, he, ja, jb, jc⟩ := HC; have Ja := ja.kk (S := [gi, gr, gm]) So; have Jb := jb.kk (S := [gi, gr, gm]) So; have Jc := jc.kk (S := [gi, gr, gm]) So;refine aU ?_;intro _ D cg;have ex := aI.one cg;clear cg;obtain ⟨F,H1,Ja,Jb,Jc⟩ := vf ex F H1 Ja Jb Jc;replace B := D; clear D;replace B := B.congr (cs' := kA g c.1.ep tr u ar 0 ar) rfl;refine aU ?_;refine aB func108 rfl (mZ 1 0 1 0 rfl rfl _ Om H1) ?_;rintro e _ ⟨rfl, H2, ex⟩;obtain ⟨F,B,Ja,Jb,Jc⟩ := vf ex F B Ja Jb Jc;refine aU ?_;have q2 := F.size;refine aB func93 rfl (jx _ H2) ?_;rintro e _ ⟨A1, n1, c1, rfl, _, V1, H3, ex⟩;refine au 1 ?_;obtain ⟨F,B,Ja,Jb,Jc⟩ := vf ex F B Ja Jb Jc;rw [← ht] at H3 V1; have J1 := V1.kk (S := [gi, gr, gm]) So;refine aU ?_;intro _ D cg;have ex := aI.one cg;clear cg;obtain ⟨F,Ja,Jb,Jc,H3,J1⟩ := mg ex F Ja Jb Jc H3 J1;replace B := D; clear D;refine aU ?_;refine aB func109 rfl (ud 4 4 rfl _ Om H3) ?_;rintro e _ ⟨rfl, H4, ex⟩;refine au 1 ?_;rw [← hf] at H4 ⊢;obtain ⟨F,B,Ja,Jb,Jc,J1⟩ := mg ex F B Ja Jb Jc J1;refine aU ?_;intro _ D cg;have ex := aI.one cg;clear cg;obtain ⟨F,Ja,Jb,Jc,J1,H4⟩ := mg ex F Ja Jb Jc J1 H4;replace B := D; clear D;refine aU ?_;have q3 := F.size;refine aB func93 rfl (jx _ H4) ?_;rintro e _ ⟨A2, n2, c2, rfl, _, V2, H5, ex⟩;obtain ⟨F,B,Ja,Jb,Jc,J1⟩ := mg ex F B Ja Jb Jc J1;have J2 := V2.kk (S := [gi, gr, gm]) So;refine aU ?_;intro _ D cg;have ex := aI.one cg;clear cg;obtain ⟨F,Ja,Jb,Jc,J1,H5,J2⟩ := Jy ex F Ja Jb Jc J1 H5 J2;replace B := D; clear D;replace B := B.congr (cs' := kA g c.1.ep tr u ⟨A1, n1, c1⟩ (f.1 : Int) ⟨A2, n2, c2⟩) rfl;refine aU ?_;refine aa4 (.inr rfl) ?_;rw [hX];exact ⟨rfl, H5, ⟨_, B, rfl, (((((Ja.uP Ja.1 (Nat.le_refl _)).and (Jb.uP Jb.1 (Nat.le_refl _))).and (Jc.uP Jc.1 (Nat.le_refl _))).and (J1.uP J1.1 (Nat.le_refl _))).and (J2.uP J2.1 (Nat.le_refl _))).map (fun _ ⟨⟨⟨⟨a, b⟩, c⟩, d⟩, e⟩ => ⟨_, _, _, _, _, rfl, he, (by show (-9223372036854775808 : Int) ≤ (f.1 : Int) ∧ (f.1 : Int) ≤ 9223372036854775807; omega), a.mono Om, b.mono Om, c.mono Om, d.mono Om, e.mono Om⟩) |>.mono (by simp)⟩, F.SX hM⟩
def fK.Fit (i : fK) : Prop := i.ctx.grp.length ≤ 1000000 ∧ i.ctx.tree.length ≤ 1000000 ∧ i.ctx.trans.length ≤ 1000000 ∧ i.tag.length ≤ 1000000 ∧ i.sig.length ≤ 1000000
theorem CM {x : fK} (w : aa9) (B : aq w gm 42 cs) (hz : cs.size = 7) (H : eP w cs x) :
  Ct 110 #[.pointer (cf gm)] w (ck w (.bool (decide (dk x)))) := by
 have E := Ext.refl w;refine ai 4 func110 ?_;intro _ aa4;refine au 7 ?_;refine ak (aP rfl Tn.u rfl (by rw [hz]; kernel_rfl) B) ?_;refine aB func111 rfl (jW _ H) ?_;rintro e _ ⟨rfl, ex⟩;replace E := E.ext ex;refine aU ?_;exact aa4 rfl ⟨rfl, E⟩
theorem Hp {A : Oa} {b : Lb} (w : aa9) (HA : Bs w A n b) (hc : n ≤ c) (hn : n ≤ 1048576) :
  Ct 43 #[.slice A n c] w fun e w' => ∃ cs, e = .returned (.tuple #[.agg cs, .int .u8 (((eO b).2 : Nat) : Int)]) ∧ kL w.heap.size w' cs (eO b).1 ∧ (eO b).2 < 256 ∧ Ext w w' := by
 have F := aI.refl [] w;have KA : Kp w.heap.size [] (fun w => Bs w A n b) w := Kp.bs HA (by simp);have hX : eO b = fx fK.zero (nI (.ok b)) (decide (dk (nI (.ok b)).1)) := rfl;refine cF (s := 7) 17 func43 rfl rfl rfl underlying42 rfl Kr rfl ?_;intro _ aa4;refine aU ?_;intro _ YZ B2 YW ex;have Za := ex.size;replace F := F.grow ex YW;replace KA := KA.grow ex YW;refine aU ?_;intro Y2 YV B4 YU ex;have Zb := B4.lt;have Y0 : YZ < YV := Nat.lt_of_lt_of_le B2.lt YU;replace F := F.grow ex YU;replace KA := KA.grow ex YU;replace B2 := B2.grow ex YU;refine au 4 ?_;refine ak (gC rfl) ?_;refine au 8 ?_;refine ak (gC rfl) ?_;have q2 := B2.lt; have q4 := B4.lt; have q5 := F.size;replace B4 := B4.congr (cs' := ku) rfl;refine aB func95 rfl (zn (N := w.heap.size) (V := [YV]) (t := (nI (.ok b)).2) (okv := decide (dk (nI (.ok b)).1)) (us := [.pointer (cf YV)]) (vs := [.pointer (cf YV)]) (Ψ := fun gi w => ∃ cs, aq w YV 42 cs ∧ cs.size = 7 ∧ Kp w.heap.size [gi, YV] (fun w => kL Y2.heap.size w cs (nI (.ok b)).1) w) _ (KA.mono (by simp)) hc Om So func106 rfl rfl func110 rfl rfl (fun w1 gi gr E hi hr H hS => Cp w1 H (B4.ext E) Om Om hi hr E.size) (fun gi w1 w2 hi ⟨cs, B, hz, K⟩ C => ⟨cs, B.bD C So, hz, (K.bD C (by simp)).uP C.size (Nat.le_refl _)⟩) (fun gi w1 ⟨cs, B, hz, K⟩ _ => CM w1 B hz (kL.at K.out))) ?_;rintro e _ ⟨rfl, ⟨gi, _, cs, BM, hz, KM⟩, YX, ex⟩;obtain ⟨F,B2⟩ := jT ex F B2;have YY := (kL.kk KM.out (S := [YZ, YV]) So); obtain ⟨_, ho⟩ := kL.size KM.out; clear KM;refine aa1 (fun Y3 => ?_) (fun Y3 => ?_)
 ·have e1 := Bk (z := fK.zero) (p := nI (.ok b)) (ok := decide (dk (nI (.ok b)).1)) Om;refine au 2 ?_;refine ak (aA rfl (cells := ku) Kr) ?_;refine aU ?_;intro _ D cg;have ex := aI.one cg;clear cg;replace F := F.bD ex;replace B2 := D; clear D;replace B2 := B2.congr (cs' := ku) rfl;refine aU ?_;refine aa4 rfl rfl B2 rfl ?_;rw [hX, e1]; exact ⟨_, rfl, kL.zero _ _, (by dsimp only; split; exact YX; split <;> omega), (F.drop Om).drop Om |>.bF (by simp)⟩
 have e1 := vW (z := fK.zero) (p := nI (.ok b)) (ok := decide (dk (nI (.ok b)).1)) Om;refine au 4 ?_;refine ak (aP rfl Tn.u rfl (by rw [hz]; kernel_rfl) BM) ?_;refine af (bI (o := 0) rfl rfl (by rw [hz]; kernel_rfl) B2 (by rw [hz]; decide) (bu ho)) rfl ?_;rintro _ _ ⟨rfl, D2, cg⟩;have ex := aI.one cg;clear cg; rw [zK (k := 7) rfl hz] at D2;obtain ⟨F,YY⟩ := jT ex F YY;refine aU ?_;refine aa4 rfl rfl D2 hz ?_;rw [hX, e1]; exact ⟨_, rfl, kL.mono YY.out Om, (by show 0 < 256; omega), (F.drop Om).drop Om |>.bF (by simp)⟩
variable {x : nG}
theorem AT {a b : fK} (w : aa9) (H : eP w cs a) (K : eP w ds b) (hf : a.Fit) (hg : b.Fit) :
  Ct 24 #[.agg cs, .agg ds] w (ck w (.bool (decide (a = b)))) := by
 have HC := (mV.ctx H).at;have KC := (mV.ctx K).at;obtain ⟨gr, tr, u, tg, sg, rfl, he, hz, h1, h2, h3, h4, h5⟩ := H;obtain ⟨YU, YV, u', YW, YX, rfl, YY, YZ, k1, k2, k3, k4, k5⟩ := K;obtain ⟨f1, f2, f3, f4, f5⟩ := hf;obtain ⟨g1, g2, g3, g4, g5⟩ := hg;have n4 := h4.1; have n5 := h5.1; have m4 := k4.1; have m5 := k5.1;have E := Ext.refl w;refine ai 31 func24 ?_;intro _ aa4;refine aU ?_;intro _ _ B2 _ ex;replace E := E.ext ex;refine aU ?_;intro _ _ B3 _ ex;obtain ⟨E,B2⟩ := aS ex E B2;refine aU ?_;refine aB func64 rfl (uS _ (HC.ext E) (KC.ext E) ⟨f1, f2, f3⟩ ⟨g1, g2, g3⟩) ?_;rintro e _ ⟨rfl, ex⟩;obtain ⟨E,B2,B3⟩ := bh ex E B2 B3;refine au 1 ?_;refine bL (aL rfl) rfl (fun q0 => ?_) (fun q0 => ?_)
 ·refine aU ?_;refine eT 10 rfl rfl func26 rfl rfl rfl (ov (Bs.ext h4 E) (Bs.ext k4 E) Om Om) rfl ?_;rintro e _ ⟨rfl, ex⟩;obtain ⟨E,B2,B3⟩ := bh ex E B2 B3;refine au 2 ?_;refine bL (aL rfl) rfl (fun q1 => ?_) (fun q1 => ?_)
  ·refine au 6 ?_;refine bL (aL rfl) rfl (fun q2 => ?_) (fun q2 => ?_)
   ·refine aU ?_;refine eT 24 rfl rfl func26 rfl rfl rfl (ov (Bs.ext h5 E) (Bs.ext k5 E) Om Om) rfl ?_;rintro e _ ⟨rfl, ex⟩;replace E := E.ext ex;refine aU ?_;exact aa4 rfl ⟨dZ ⟨fun h => DZ.2 ⟨q0, q1, q2, h⟩, fun h => by rw [h]⟩, E⟩
   refine aU ?_;exact aa4 rfl ⟨cW fun h => q2 (by rw [h]), E⟩
  refine aU ?_;exact aa4 rfl ⟨cW fun h => q1 (by rw [h]), E⟩
 refine aU ?_;exact aa4 rfl ⟨cW fun h => q0 (by rw [h]), E⟩
end
namespace Fp
def p : Nat := 57896044618658097711785492504343953926634992332820282019728792003956564819949
def fn (n : Nat) (f : Nat → Nat) : List Nat := (List.range n).map f
theorem eE (n : Nat) (f : Nat → Nat) : (fn n f).length = n := by simp [fn]
theorem sQ (f : Nat → Nat) (h : j < n) : (fn n f).getD j 0 = f j := by simp [fn, h]
theorem pX (h : ∀ j, j < n → f j = g j) : fn n f = fn n g := by unfold fn;simp_all
theorem Dn (n : Nat) (f : Nat → Nat) (i x : Nat) : (fn n f).set i x = fn n (fun j => if j = i then x else f j) := by
 apply List.ext_getElem
 ·simp [fn]
 intro j _ _;simp only [fn, List.getElem_set, List.getElem_map, List.getElem_range];grind
theorem Vx (l : List Nat) : l = fn l.length (fun j => l.getD j 0) := by
 apply List.ext_getElem
 ·simp [fn]
 intro j h1 _;simp [fn, h1]
def val (f : Nat → Nat) : Nat := f 0 + 2251799813685248 * f 1 + 5070602400912917605986812821504 * f 2 + 11417981541647679048466287755595961091061972992 * f 3 + 25711008708143844408671393477458601640355247900524685364822016 * f 4
theorem val_congr (h : ∀ j, j < 5 → f j = g j) : val f = val g := by unfold val;rw [h 0 (Om), h 1 (Om), h 2 (Om), h 3 (Om), h 4 (Om)]
def small (f : Nat → Nat) : Prop := ∀ j, j < 5 → f j < 2251799813840896
def carry (f : Nat → Nat) (j : Nat) : Nat := f j % 2251799813685248 + (if j = 0 then f 4 / 2251799813685248 * 19 else f (j - 1) / 2251799813685248)
theorem IF (f : Nat → Nat) : val f = val (carry f) + p * (f 4 / 2251799813685248) := by simp only [val, carry, p];simp;omega
theorem KV (h : ∀ j, j < 5 → f j < 18446744073709551616) (j : Nat) (hj : j < 5) : carry f j < 2251799813685248 + 155648 := by unfold carry;grind
theorem iJ (h : ∀ j, j < 5 → f j < 18446744073709551616) : small (carry f) := fun j hj => by have := KV h j hj; omega
theorem vw (h : small f) (j : Nat) (hj : j < 5) : carry f j < 2251799813685248 + 19 := by
 unfold carry;have h4 := h 4 (Om);split
 ·omega
 have := h (j - 1) (Om); omega
theorem fE (f : Nat → Nat) : val (carry f) % p = val f % p := by rw [IF f, Nat.add_mul_mod_self_left]
def qc (g : Nat → Nat) : Nat → Nat
 | 0 => 19
 | i + 1 => (g i + qc g i) / 2251799813685248
def rc (g : Nat → Nat) (q : Nat) : Nat → Nat
 | 0 => 19 * q
 | i + 1 => (g i + rc g q i) / 2251799813685248
theorem RF (h : ∀ j, j < 5 → g j < 4503599627370496) (i : Nat) (hi : i ≤ 5) : qc g i ≤ 19 := by
 induction i with
 | zero => exact Nat.le_refl _
 | succ i ih => have := ih (Om); have := h i (Om); rw [qc]; omega
theorem Rx (hq : q ≤ 19) (h : ∀ j, j < 5 → g j < 4503599627370496) (i : Nat) (hi : i ≤ 5) : rc g q i ≤ 361 := by
 induction i with
 | zero => rw [rc]; omega
 | succ i ih => have := ih (Om); have := h i (Om); rw [rc]; omega
def st (g : Nat → Nat) (q i j : Nat) : Nat := if j < i then (g j + rc g q j) % 2251799813685248 else if j = i then g j + rc g q j else g j
theorem Kw (g : Nat → Nat) (q i : Nat) : st g q i i = g i + rc g q i := by simp [st]
theorem Ok (g : Nat → Nat) (q i : Nat) : st g q i (i + 1) = g (i + 1) := by unfold st; rw [if_neg (Om), if_neg (Om)]
theorem PF (g : Nat → Nat) (q j : Nat) : (if j = 0 then g 0 + 19 * q else g j) = st g q 0 j := by
 by_cases h : j = 0
 ·subst h; simp [st, rc]
 simp [st, h]
theorem QJ (g : Nat → Nat) (q i j : Nat) : (if j = i then (g i + rc g q i) % 2251799813685248 else if j = i + 1 then g (i + 1) + (g i + rc g q i) / 2251799813685248 else st g q i j) = st g q (i + 1) j := by
 by_cases h1 : j = i
 ·subst h1; rw [if_pos rfl]; unfold st; rw [if_pos (Om)]
 rw [if_neg h1];by_cases h2 : j = i + 1
 ·subst h2; rw [if_pos rfl]; unfold st; rw [if_neg (Om), if_pos rfl, rc]
 rw [if_neg h2]; unfold st;grind
theorem TB (g : Nat → Nat) (q j : Nat) (hj : j < 5) : (if j = 4 then (g 4 + rc g q 4) % 2251799813685248 else st g q 4 j) = (g j + rc g q j) % 2251799813685248 := by
 by_cases h : j = 4
 ·grind
 rw [if_neg h]; unfold st; rw [if_pos (Om)]
def gn (v j : Nat) : Nat := v / 2251799813685248 ^ j % 2251799813685248
theorem GG (v j : Nat) : gn v j < 2251799813685248 := Nat.mod_lt _ (Om)
theorem Nk (h : Nat → Nat) (hl : ∀ j, j < 5 → h j < 2251799813685248) (j : Nat) (hj : j < 5) : gn (val h) j = h j := by
 have h0 := hl 0 (Om); have h1 := hl 1 (Om); have h2 := hl 2 (Om); have h3 := hl 3 (Om); have h4 := hl 4 (Om);unfold gn val
 match j, hj with
 | 0, _ => omega
 | 1, _ => omega
 | 2, _ => omega
 | 3, _ => omega
 | 4, _ => omega
theorem Ay (v : Nat) (hv : v < 57896044618658097711785492504343953926634992332820282019728792003956564819968) : val (gn v) = v := by simp only [gn, val, Nat.pow_zero, Nat.pow_one];omega
theorem Td (g : Nat → Nat) : qc g 5 = (val g + 19) / 57896044618658097711785492504343953926634992332820282019728792003956564819968 := by simp only [qc, val];omega
theorem Tz (g : Nat → Nat) (q : Nat) : val (fun j => (g j + rc g q j) % 2251799813685248) + 57896044618658097711785492504343953926634992332820282019728792003956564819968 * rc g q 5 = val g + 19 * q := by simp only [rc, val];omega
theorem Cy (hl : ∀ j, j < 5 → h j < 2251799813685248) : val h < 57896044618658097711785492504343953926634992332820282019728792003956564819968 := by have h0 := hl 0 (Om); have h1 := hl 1 (Om); have h2 := hl 2 (Om); have h3 := hl 3 (Om); have h4 := hl 4 (Om);unfold val;omega
theorem Lg (hf : small f) (hg : g = carry (carry f)) (j : Nat) (hj : j < 5) : (g j + rc g (qc g 5) j) % 2251799813685248 = gn (val f % p) j := by
 have hs := iJ (f := f) (fun j hj => by have := hf j hj; omega);have hb : ∀ j, j < 5 → g j < 2251799813685248 + 19 := fun j hj => by rw [hg]; exact vw hs j hj
 have hvg : val g % p = val f % p := by rw [hg, fE, fE]
 have hq := Td g;have hr := Tz g (qc g 5);have hlt := Cy (h := fun j => (g j + rc g (qc g 5) j) % 2251799813685248) (fun j _ => Nat.mod_lt _ (Om))
 have hgv : val g < 2 * p - 100 := by have h0 := hb 0 (Om); have h1 := hb 1 (Om); have h2 := hb 2 (Om); have h3 := hb 3 (Om); have h4 := hb 4 (Om);unfold val p;omega
 have key : val (fun j => (g j + rc g (qc g 5) j) % 2251799813685248) = val g % p := by
  unfold p at hgv ⊢;have hc : qc g 5 = 0 ∨ qc g 5 = 1 := Om
  omega
 rw [← hvg, ← key];exact (Nk (fun j => (g j + rc g (qc g 5) j) % 2251799813685248) (fun j _ => Nat.mod_lt _ (Om)) j hj).symm
def Eh (f g : Nat → Nat) (t r : Nat) : Nat := if (t / 5 + t % 5) % 5 = r then f (t / 5) * (if 5 ≤ t / 5 + t % 5 then g (t % 5) * 19 else g (t % 5)) else 0
def acc (f g : Nat → Nat) : Nat → Nat → Nat
 | 0, _ => 0
 | t + 1, r => acc f g t r + Eh f g t r
theorem NF (f0 f1 f2 f3 f4 g0 g1 g2 g3 g4 : Nat) :
  ∃ k, (f0 + 2251799813685248 * f1 + 5070602400912917605986812821504 * f2 + 11417981541647679048466287755595961091061972992 * f3 + 25711008708143844408671393477458601640355247900524685364822016 * f4) * (g0 + 2251799813685248 * g1 + 5070602400912917605986812821504 * g2 + 11417981541647679048466287755595961091061972992 * g3 + 25711008708143844408671393477458601640355247900524685364822016 * g4) = (f0 * g0 + 19 * (f1 * g4) + 19 * (f2 * g3) + 19 * (f3 * g2) + 19 * (f4 * g1)) + 2251799813685248 * (f0 * g1 + f1 * g0 + 19 * (f2 * g4) + 19 * (f3 * g3) + 19 * (f4 * g2)) + 5070602400912917605986812821504 * (f0 * g2 + f1 * g1 + f2 * g0 + 19 * (f3 * g4) + 19 * (f4 * g3)) + 11417981541647679048466287755595961091061972992 * (f0 * g3 + f1 * g2 + f2 * g1 + f3 * g0 + 19 * (f4 * g4)) + 25711008708143844408671393477458601640355247900524685364822016 * (f0 * g4 + f1 * g3 + f2 * g2 + f3 * g1 + f4 * g0) + 57896044618658097711785492504343953926634992332820282019728792003956564819949 * k := by
 refine ⟨((f1 * g4) + (f2 * g3) + 2251799813685248 * (f2 * g4) + (f3 * g2) + 2251799813685248 * (f3 * g3) + 5070602400912917605986812821504 * (f3 * g4) + (f4 * g1) + 2251799813685248 * (f4 * g2) + 5070602400912917605986812821504 * (f4 * g3) + 11417981541647679048466287755595961091061972992 * (f4 * g4)), ?_⟩;grind
theorem Nj (hf : small f) (hg : small g) (t r : Nat) (ht : t ≤ 25) : acc f g t r ≤ t * 385365782469381738054997774434304 := by
  induction t with
  | zero => simp [acc]
  | succ t ih =>
    have h1 := ih (Om)
    have h2 : Eh f g t r ≤ 385365782469381738054997774434304 := by
      unfold Eh;split
      · have YU := hf (t / 5) (Om)
        have YV := hg (t % 5) (Om);have : f (t / 5) * (if 5 ≤ t / 5 + t % 5 then g (t % 5) * 19 else g (t % 5)) ≤ 4503599627370496 * (4503599627370496 * 19) := Nat.mul_le_mul (Om) (by split <;> omega);omega
      omega
    rw [acc]
    omega
theorem Qe (f g : Nat → Nat) : ∃ k, val f * val g = val (acc f g 25) + p * k := by obtain ⟨k, hk⟩ := NF (f 0) (f 1) (f 2) (f 3) (f 4) (g 0) (g 1) (g 2) (g 3) (g 4);refine ⟨k, hk.trans ?_⟩;congr 1;simp only [val, acc, Eh];grind
theorem Kf (hf : small f) (hg : small g) : acc f g 25 4 ≤ 101412048018258352119736256430080 := by
 have e : acc f g 25 4 = f 0 * g 4 + f 1 * g 3 + f 2 * g 2 + f 3 * g 1 + f 4 * g 0 := by simp [acc, Eh]
 have h : ∀ i k, i < 5 → k < 5 → f i * g k ≤ 4503599627370496 * 4503599627370496 := fun i k hi hk => Nat.mul_le_mul (by have := hf i hi; omega) (by have := hg k hk; omega);have h0 := h 0 4 (Om) (Om); have h1 := h 1 3 (Om) (Om); have h2 := h 2 2 (Om) (Om); have h3 := h 3 1 (Om) (Om); have h4 := h 4 0 (Om) (Om);omega
def fr (s : Nat → Nat) : Nat → Nat
 | 0 => 0
 | i + 1 => (s i + fr s i) / 2251799813685248
theorem QP (h : ∀ j, j < 5 → s j ≤ 9634144561734543451374944360857600) (i : Nat) (hi : i ≤ 5) : fr s i ≤ 4278419646001973101 := by
 induction i with
 | zero => exact Nat.zero_le _
 | succ i ih => have := ih (Om); have := h i (Om); rw [fr]; omega
theorem OA (h : ∀ j, j < 5 → s j ≤ 9634144561734543451374944360857600) (h4 : s 4 ≤ 101412048018258352119736256430080) : fr s 5 ≤ 45035996273706861 := by have := QP h 4 (Om);rw [fr]; omega
theorem Si (s : Nat → Nat) : val (fun j => (s j + fr s j) % 2251799813685248) + 57896044618658097711785492504343953926634992332820282019728792003956564819968 * fr s 5 = val s := by simp only [fr, val];omega
theorem OR (s : Nat → Nat) : val (fun j => (s j + fr s j) % 2251799813685248 + (if j = 0 then fr s 5 * 19 else 0)) + p * fr s 5 = val s := by
 have h := Si s
 simp only [val, p] at *
 simp;omega
def num : List UInt8 → Nat
 | [] => 0
 | b :: bs => b.toNat + 256 * num bs
theorem lG : ∀ (l : List UInt8), num l < 256 ^ l.length
  | [] => by simp [num]
  | b :: l => by have := lG l;have := b.toNat_lt;simp only [num, List.length_cons, Nat.pow_succ];omega
theorem jo : ∀ (a b : List UInt8), num (a ++ b) = num a + 256 ^ a.length * num b
  | [], b => by simp [num]
  | d :: a, b => by simp only [List.cons_append, num, jo a b, List.length_cons, Nat.pow_succ];rw [Nat.mul_add, Nat.mul_comm (256 ^ a.length) 256, Nat.mul_assoc];omega
theorem I7 (n : Nat) : num (List.replicate n 0) = 0 := by
 induction n with
 | zero => rfl
 | succ n ih => rw [List.replicate_succ, num, ih]; rfl
theorem mU (l : List UInt8) (k : Nat) (hk : k ≤ l.length) : num (l.drop k) = num l / 256 ^ k := by have h := jo (l.take k) (l.drop k);rw [List.take_append_drop, List.length_take, Nat.min_eq_left hk] at h;have hl := lG (l.take k);rw [List.length_take, Nat.min_eq_left hk] at hl;rw [h, Nat.add_mul_div_left _ _ (Nat.pow_pos (Om)), Nat.div_eq_of_lt hl, Nat.zero_add]
theorem zk (l : List UInt8) (k : Nat) (hk : k ≤ l.length) : num (l.take k) = num l % 256 ^ k := by have h := jo (l.take k) (l.drop k);rw [List.take_append_drop, List.length_take, Nat.min_eq_left hk] at h;have hl := lG (l.take k);rw [List.length_take, Nat.min_eq_left hk] at hl;rw [h, Nat.add_mul_mod_self_left, Nat.mod_eq_of_lt hl]
def word (X : List UInt8) (o : Nat) : Nat := num ((X.drop o).take 8)
theorem nv (X : List UInt8) (o : Nat) (h : o + 8 ≤ X.length) : word X o = num X / 256 ^ o % 18446744073709551616 := by unfold word;rw [zk _ _ (by simp; omega), mU _ _ (Om)]
theorem word_lt (X : List UInt8) (o : Nat) (h : o + 8 ≤ X.length) : word X o < 18446744073709551616 := by rw [nv X o h]; omega
theorem Hz (X : List UInt8) (o j : Nat) (hj : j < 8) (h : o + 8 ≤ X.length) : num ((X.drop (o + j)).take (8 - j)) = (X.getD (o + j) 0).toNat + 256 * num ((X.drop (o + (j + 1))).take (8 - (j + 1))) := by
 have hl : o + j < X.length := Om
 rw [List.drop_eq_getElem_cons hl, show 8 - j = (8 - (j + 1)) + 1 by omega, List.take_succ_cons, num];grind
theorem Oi (X : List UInt8) (o j : Nat) (hj : j ≤ 8) : num ((X.drop (o + j)).take (8 - j)) < 256 ^ (8 - j) := by
 have h := lG ((X.drop (o + j)).take (8 - j));have h2 : ((X.drop (o + j)).take (8 - j)).length ≤ 8 - j := by simp; omega
 exact Nat.lt_of_lt_of_le h (Nat.pow_le_pow_right (Om) h2)
def pad (b : List UInt8) : List UInt8 := b.take 32 ++ List.replicate (32 - (b.take 32).length) 0
theorem cJ (b : List UInt8) : (pad b).length = 32 := by unfold pad; simp; omega
theorem QI (b : List UInt8) : num (pad b) = num (b.take 32) := by unfold pad; rw [jo, I7, Nat.mul_zero, Nat.add_zero]
def RR (b : List UInt8) : Nat := num (b.take 32) % 57896044618658097711785492504343953926634992332820282019728792003956564819968 % p
def Dp (X : List UInt8) (j : Nat) : Nat := if j = 0 then word X 0 % 2251799813685248 else if j = 1 then word X 6 / 8 % 2251799813685248 else if j = 2 then word X 12 / 64 % 2251799813685248 else if j = 3 then word X 19 / 2 % 2251799813685248 else word X 24 / 4096 % 2251799813685248
theorem TC (X : List UInt8) (j : Nat) : Dp X j < 2251799813685248 := by unfold Dp;grind
theorem OI (X : List UInt8) (h : X.length = 32) : val (Dp X) = num X % 57896044618658097711785492504343953926634992332820282019728792003956564819968 := by
 have h0 := nv X 0 (Om); have h1 := nv X 6 (Om); have h2 := nv X 12 (Om); have h3 := nv X 19 (Om); have h4 := nv X 24 (Om);rw [show (256 : Nat) ^ 0 = 1 from rfl] at h0;rw [show (256 : Nat) ^ 6 = 281474976710656 from rfl] at h1;rw [show (256 : Nat) ^ 12 = 79228162514264337593543950336 from rfl] at h2;rw [show (256 : Nat) ^ 19 = 5708990770823839524233143877797980545530986496 from rfl] at h3;rw [show (256 : Nat) ^ 24 = 6277101735386680763835789423207666416102355444464034512896 from rfl] at h4;have e0 : Dp X 0 = num X % 2251799813685248 := by unfold Dp; grind
 have e1 : Dp X 1 = num X / 2251799813685248 % 2251799813685248 := by unfold Dp; grind
 have e2 : Dp X 2 = num X / 5070602400912917605986812821504 % 2251799813685248 := by unfold Dp; rw [if_neg (Om), if_neg (Om), if_pos rfl, h2]; omega
 have e3 : Dp X 3 = num X / 11417981541647679048466287755595961091061972992 % 2251799813685248 := by unfold Dp; rw [if_neg (Om), if_neg (Om), if_neg (Om), if_pos rfl, h3]; omega
 have e4 : Dp X 4 = num X / 25711008708143844408671393477458601640355247900524685364822016 % 2251799813685248 := by unfold Dp; rw [if_neg (Om), if_neg (Om), if_neg (Om), if_neg (Om), h4]; omega
 unfold val;omega
def le (n x : Nat) : List UInt8 := (List.range n).map fun j => UInt8.ofNat (x / 256 ^ j % 256)
theorem cw (n x : Nat) : (le n x).length = n := by simp [le]
theorem nD (T : Nat) : 2 ^ T = 2 ^ (T % 8) * 256 ^ (T / 8) := by rw [show (256 : Nat) = 2 ^ 8 from rfl, ← Nat.pow_mul, ← Nat.pow_add];congr 1;omega
theorem Gj {T : Nat} (hx : x < 2 ^ T) : x / 256 ^ (T / 8) < 2 ^ (T % 8) := by rw [nD] at hx;exact Nat.div_lt_of_lt_mul (by grind)
theorem EF (T : Nat) : 2 ^ (T % 8) ≤ 128 := by have h := Nat.pow_le_pow_right (n := 2) (Om) (show T % 8 ≤ 7 by omega);exact h
theorem Mr {T : Nat} (j : Nat) (hx : x < 2 ^ T) (hb : b ≤ 1) : (if j = T / 8 then x / 256 ^ (T / 8) + b * 2 ^ (T % 8) else x / 256 ^ j % 256) = (x + b * 2 ^ T) / 256 ^ j % 256 := by
 have h1 := Gj hx;have h2 := EF T;by_cases h : j = T / 8
 ·subst h;rw [if_pos rfl]
  have e : x + b * 2 ^ T = x + 256 ^ (T / 8) * (b * 2 ^ (T % 8)) := by rw [nD T, ← Nat.mul_assoc, Nat.mul_comm (256 ^ (T / 8))]
  rw [e, Nat.add_mul_div_left _ _ (Nat.pow_pos (Om))];have h3 : b * 2 ^ (T % 8) ≤ 1 * 2 ^ (T % 8) := Nat.mul_le_mul_right _ hb;grind
 rw [if_neg h];rcases Nat.lt_or_ge j (T / 8) with h3 | h3
 ·obtain ⟨d, hd⟩ : ∃ d, T / 8 = j + 1 + d := ⟨T / 8 - (j + 1), Om⟩
  have e : 2 ^ T = 256 ^ j * (256 * (2 ^ (T % 8) * 256 ^ d)) := by rw [nD T, hd, Nat.pow_add, Nat.pow_succ];grind
  rw [e, ← Nat.mul_assoc b, Nat.mul_comm b, Nat.mul_assoc, Nat.add_mul_div_left _ _ (Nat.pow_pos (Om)), ← Nat.mul_assoc b, Nat.mul_comm b, Nat.mul_assoc, Nat.add_mul_mod_self_left]
 have h4 : 2 ^ (T + 1) ≤ 256 ^ j := by rw [show (256 : Nat) = 2 ^ 8 from rfl, ← Nat.pow_mul];exact Nat.pow_le_pow_right (Om) (Om)
 have h5 : x + b * 2 ^ T < 256 ^ j := by have : b * 2 ^ T ≤ 1 * 2 ^ T := Nat.mul_le_mul_right _ hb;omega
 rw [Nat.div_eq_of_lt (Om), Nat.div_eq_of_lt h5]
theorem Kh (a i k : Nat) (hk : k < 51) : gn a i / 2 ^ k % 2 = a / 2 ^ (51 * i + k) % 2 := by unfold gn;rw [show (2251799813685248 : Nat) = 2 ^ 51 from rfl, show (2 : Nat) ^ 51 = 2 ^ k * 2 ^ (51 - k) from by rw [← Nat.pow_add]; congr 1; omega, Nat.mod_mul_right_div_self, ← Nat.pow_add, show k + (51 - k) = 51 by omega, ← Nat.pow_mul, Nat.div_div_eq_div_mul, ← Nat.pow_add];exact Nat.mod_mod_of_dvd _ ⟨2 ^ (51 - k - 1), by rw [← Nat.pow_succ']; congr 1; omega⟩
theorem mo (n x : Nat) (h : x < 256 ^ n) : num (le n x) = x := by
  induction n generalizing x with
  | zero => simp at h; subst h; rfl
  | succ n ih =>
    have e : le (n + 1) x = UInt8.ofNat (x % 256) :: le n (x / 256) := by
      unfold le;rw [List.range_succ_eq_map, List.map_cons, List.map_map];congr 1
      · simp
      apply List.map_congr_left;intro _ _;simp only [Function.comp_apply];rw [Nat.div_div_eq_div_mul, Nat.pow_succ, Nat.mul_comm]
    rw [e, num, ih _ (Om), UInt8.toNat_ofNat']
    omega
theorem Fw (l : List UInt8) (hl : l.length ≤ 31) : num l % 57896044618658097711785492504343953926634992332820282019728792003956564819968 = num l := by have h := lG l;have h2 := Nat.pow_le_pow_right (n := 256) (Om) hl;rw [show (256 : Nat) ^ 31 = 452312848583266388373324160190187140051835877600158453279131187530910662656 from rfl] at h2;exact Nat.mod_eq_of_lt (Om)
end Fp
namespace Nt
def lV (r : Nat) : Prop := 2 ≤ r ∧ ∀ d, d ∣ r → d = 1 ∨ d = r
def ch : Nat → Nat → Nat
 | _, 0 => 1
 | 0, _ + 1 => 0
 | n + 1, k + 1 => ch n k + ch n (k + 1)
theorem sr (n : Nat) : ch n 0 = 1 := by cases n <;> rfl
theorem nu : ∀ (n k : Nat), n < k → ch n k = 0
 | 0, 0, h => absurd h (Om)
 | 0, k + 1, _ => rfl
 | n + 1, 0, h => absurd h (Om)
 | n + 1, k + 1, h => by rw [ch, nu n k (Om), nu n (k + 1) (Om)]
theorem Gu : ∀ n : Nat, ch n n = 1
 | 0 => rfl
 | n + 1 => by rw [ch, Gu n, nu n (n + 1) (Om)]
theorem xj : ∀ (n k : Nat), (k + 1) * ch (n + 1) (k + 1) = (n + 1) * ch n k
  | 0, 0 => rfl
  | 0, k + 1 => by rw [nu (0 + 1) (k + 1 + 1) (Om), nu 0 (k + 1) (Om), Nat.mul_zero, Nat.mul_zero]
  | n + 1, 0 => by have h := xj n 0;have e : ch (n + 1 + 1) (0 + 1) = ch (n + 1) 0 + ch (n + 1) (0 + 1) := rfl;rw [sr] at h e;rw [e, sr];omega
  | n + 1, k + 1 => by
    have h1 := xj n k;have h2 := xj n (k + 1);rw [show ch (n + 1 + 1) (k + 1 + 1) = ch (n + 1) (k + 1) + ch (n + 1) (k + 1 + 1) from rfl];have e : ch (n + 1) (k + 1) = ch n k + ch n (k + 1) := rfl
    have a1 : (k + 1 + 1) * (ch (n + 1) (k + 1) + ch (n + 1) (k + 1 + 1)) = (k + 1) * ch (n + 1) (k + 1) + ch (n + 1) (k + 1) + (k + 1 + 1) * ch (n + 1) (k + 1 + 1) := by rw [Nat.mul_add, Nat.add_mul (k + 1) 1, Nat.one_mul]
    rw [a1, h1, h2, Nat.add_mul (n + 1) 1 (ch (n + 1) (k + 1)), Nat.one_mul];have a2 : (n + 1) * ch (n + 1) (k + 1) = (n + 1) * ch n k + (n + 1) * ch n (k + 1) := by rw [e, Nat.mul_add]
    omega
def dq (f : Nat → Nat) : Nat → Nat
 | 0 => 0
 | n + 1 => dq f n + f n
theorem rZ {f g : Nat → Nat} : ∀ (n : Nat), (∀ k, k < n → f k = g k) → dq f n = dq g n
 | 0, _ => rfl
 | n + 1, h => by rw [dq, dq, rZ n (fun k hk => h k (Om)), h n (Om)]
theorem vQ (f g : Nat → Nat) : ∀ n, dq (fun k => f k + g k) n = dq f n + dq g n
 | 0 => rfl
 | n + 1 => by rw [dq, dq, dq, vQ f g n]; omega
theorem vR (f : Nat → Nat) (c : Nat) : ∀ n, dq (fun k => f k * c) n = dq f n * c
 | 0 => by rw [dq, dq, Nat.zero_mul]
 | n + 1 => by rw [dq, dq, vR f c n, Nat.add_mul]
theorem jS (f : Nat → Nat) : ∀ n, dq f (n + 1) = f 0 + dq (fun k => f (k + 1)) n
 | 0 => by rw [dq, dq, dq]; omega
 | n + 1 => by rw [dq, jS f n, dq]; omega
theorem vJ {f : Nat → Nat} {d : Nat} : ∀ n, (∀ k, k < n → d ∣ f k) → d ∣ dq f n
 | 0, _ => Nat.dvd_zero _
 | n + 1, h => Nat.dvd_add (vJ n fun k hk => h k (Om)) (h n (Om))
theorem Rr (a : Nat) : ∀ n, (a + 1) ^ n = dq (fun k => ch n k * a ^ k) (n + 1)
  | 0 => by simp [dq, ch]
  | n + 1 => by
    rw [Nat.pow_succ, Rr a n, jS (fun k => ch (n + 1) k * a ^ k)]
    have e1 : dq (fun k => ch (n + 1) (k + 1) * a ^ (k + 1)) (n + 1) = dq (fun k => ch n k * a ^ k) (n + 1) * a + dq (fun k => ch n (k + 1) * a ^ (k + 1)) (n + 1) := by rw [← vR, ← vQ];refine rZ _ fun k _ => ?_;rw [ch, Nat.add_mul, Nat.pow_succ, Nat.mul_assoc]
    have e2 : dq (fun k => ch n (k + 1) * a ^ (k + 1)) (n + 1) = dq (fun k => ch n (k + 1) * a ^ (k + 1)) n := by rw [dq, nu n (n + 1) (Om), Nat.zero_mul, Nat.add_zero]
    have e3 := jS (fun k => ch n k * a ^ k) n;simp only [sr, Nat.pow_zero, Nat.mul_one] at e3 ⊢;rw [e1, e2, Nat.mul_add, Nat.mul_one];omega
theorem lV.Yc (h : lV r) (hk : ¬ r ∣ k) : Nat.Coprime r k := by
 rcases h.2 _ (Nat.gcd_dvd_left r k) with e | e
 ·exact e
 exact absurd (e ▸ Nat.gcd_dvd_right r k) hk
theorem lV.dvd_mul (h : lV r) (hd : r ∣ a * b) : r ∣ a ∨ r ∣ b := by
 by_cases ha : r ∣ a
 ·exact .inl ha
 exact .inr ((h.Yc ha).dvd_of_dvd_mul_left hd)
theorem lV.RZ (h : lV r) (h0 : 0 < k) (hk : k < r) : r ∣ ch r k := by
 obtain ⟨k, rfl⟩ : ∃ j, k = j + 1 := ⟨k - 1, Om⟩
 obtain ⟨n, rfl⟩ : ∃ j, r = j + 1 := ⟨r - 1, Om⟩
 have hm := xj n k;rcases h.dvd_mul (a := k + 1) (b := ch (n + 1) (k + 1)) (hm ▸ Nat.dvd_mul_right _ _) with hd | hd
 ·exact absurd (Nat.le_of_dvd (Om) hd) (Om)
 exact hd
theorem Aq (h : lV r) (a : Nat) : ∃ c, (a + 1) ^ r = a ^ r + 1 + r * c := by
 obtain ⟨n, rfl⟩ : ∃ j, r = j + 1 := ⟨r - 1, by have := h.1; omega⟩
 rw [Rr, dq, jS, Gu, sr, Nat.pow_zero, Nat.mul_one, Nat.one_mul];obtain ⟨c, hc⟩ := vJ (d := n + 1) (f := fun k => ch (n + 1) (k + 1) * a ^ (k + 1)) n (fun k hk => Nat.dvd_trans (h.RZ (Om) (Om)) (Nat.dvd_mul_right _ _));grind
theorem yo (h : lV r) (a : Nat) : a ^ r % r = a % r := by
  induction a with
  | zero => rw [Nat.zero_pow (by have := h.1; omega)]
  | succ a ih =>
    obtain ⟨c, hc⟩ := Aq h a
    rw [hc, Nat.add_mul_mod_self_left, Nat.add_mod, ih, ← Nat.add_mod]
theorem yg (h : b ≤ a) : b % r = a % r ↔ r ∣ a - b := by
 rw [Nat.dvd_iff_mod_eq_zero];obtain ⟨c, rfl⟩ := Nat.exists_eq_add_of_le h;rw [Nat.add_sub_cancel_left];constructor
 ·intro he;rcases Nat.eq_zero_or_pos r with h0 | h0
  ·grind
  have h1 := Nat.add_mod b c r;have hb := Nat.mod_lt b h0;have hc := Nat.mod_lt c h0;rw [← he] at h1;rw [Nat.mod_def (b % r + c % r)] at h1;by_cases hlt : b % r + c % r < r
  ·rw [Nat.div_eq_of_lt hlt] at h1; omega
  rw [show (b % r + c % r) / r = 1 from by rw [Nat.div_eq_iff h0]; omega] at h1; omega
 intro hc;rw [Nat.add_mod, hc, Nat.add_zero, Nat.mod_mod]
theorem lV.cancel (h : lV r) (ha : ¬ r ∣ a) (he : a * b % r = a * c % r) : b % r = c % r := by
 have main : ∀ b c : Nat, c ≤ b → a * b % r = a * c % r → b % r = c % r := by
  intro b c hle he;have hd : r ∣ a * b - a * c := (yg (Nat.mul_le_mul_left a hle)).1 he.symm;rw [← Nat.mul_sub] at hd;rcases h.dvd_mul hd with hd | hd
  ·omega
  exact ((yg hle).2 hd).symm
 rcases Nat.le_total c b with hle | hle
 ·grind
 grind
theorem GM (h : lV r) (ha : ¬ r ∣ a) : a ^ (r - 1) % r = 1 := by
 have h2 := h.1;have hf := yo h a
 obtain ⟨n, rfl⟩ : ∃ j, r = j + 1 := ⟨r - 1, Om⟩
 have := h.cancel (a := a) (b := a ^ n) (c := 1) ha (by rw [Nat.mul_comm, ← Nat.pow_succ, hf, Nat.mul_one]);rw [Nat.add_sub_cancel, this, Nat.mod_eq_of_lt (Om)]
theorem Bz {y : Nat} (hx : x % r = 1 % r) : x * y % r = y % r := by rw [Nat.mul_mod, hx, ← Nat.mul_mod, Nat.one_mul]
theorem rL (hx : x % r = 1 % r) (k : Nat) : x ^ k % r = 1 % r := by rw [Nat.pow_mod, hx, ← Nat.pow_mod, Nat.one_pow]
theorem one_gcd : ∀ (x y : Nat), a ^ x % r = 1 % r → a ^ y % r = 1 % r → a ^ Nat.gcd x y % r = 1 % r := by
  intro x y
  induction x, y using Nat.gcd.induction with
  | H0 y => grind
  | H1 x y hx ih =>
    intro h1 h2
    rw [Nat.gcd_rec]
    refine ih ?_ h1
    have e : a ^ y = (a ^ x) ^ (y / x) * a ^ (y % x) := by rw [← Nat.pow_mul, ← Nat.pow_add, Nat.div_add_mod]
    rw [e, Bz (rL h1 _)] at h2
    exact h2
theorem Xs {g : Nat} (hn : 1 < n) (hq : lV q) (a : Nat) (hm : n - 1 = q * m) (h1 : a ^ (n - 1) % n = 1) (h2 : a ^ m % n = g + 1) (h3 : Nat.gcd g n = 1) (hr : lV r) (hd : r ∣ n) : q ∣ r - 1 := by
 have YW := hr.1
 have YU : a ^ (n - 1) % r = 1 % r := by have := congrArg (· % r) h1;simpa [Nat.mod_mod_of_dvd _ hd] using this
 have hra : ¬ r ∣ a := fun hc => by
  obtain ⟨j, hj⟩ : ∃ j, n - 1 = j + 1 := ⟨n - 2, Om⟩
  have : r ∣ a ^ (n - 1) := by rw [hj, Nat.pow_succ]; grind
  rw [Nat.mod_eq_zero_of_dvd this, Nat.mod_eq_of_lt (Om)] at YU;cases YU
 apply Classical.byContradiction;intro hcon;have hf : a ^ (r - 1) % r = 1 % r := by rw [GM hr hra, Nat.mod_eq_of_lt (Om)]
 have hg := one_gcd (n - 1) (r - 1) YU hf
 have hgm : Nat.gcd (n - 1) (r - 1) ∣ m := by have c1 : Nat.Coprime q (Nat.gcd (n - 1) (r - 1)) := hq.Yc fun hc => hcon (Nat.dvd_trans hc (Nat.gcd_dvd_right _ _));refine c1.symm.dvd_of_dvd_mul_left (n := m) (m := q) ?_;rw [← hm]; exact Nat.gcd_dvd_left _ _
 have YV : a ^ m % r = 1 % r := by obtain ⟨k, hk⟩ := hgm;rw [hk, Nat.pow_mul];exact rL hg k
 have : (g + 1) % r = 1 % r := by have e := congrArg (· % r) h2;simp only [Nat.mod_mod_of_dvd _ hd] at e;rw [← e, YV]
 have hdg : r ∣ g := by have := (yg (show 1 ≤ g + 1 by omega)).1 this.symm;grind
 have := Nat.dvd_gcd hdg hd;simp_all
theorem ql (hn : 2 ≤ n) : ∃ r, lV r ∧ r ∣ n ∧ (r = n ∨ r * r ≤ n) := by
  have key : ∀ k d : Nat, d + k = n → 2 ≤ d → (∀ e, 2 ≤ e → e < d → ¬ e ∣ n) → ∃ r, 2 ≤ r ∧ r ∣ n ∧ ∀ e, 2 ≤ e → e < r → ¬ e ∣ n := by
    intro k
    induction k with
    | zero => intro d hd h2 hmin; exact ⟨d, h2, by simp_all, hmin⟩
    | succ k ih =>
      intro d hd h2 hmin
      by_cases hdn : d ∣ n
      · exact ⟨d, h2, hdn, hmin⟩
      refine ih (d + 1) (Om) (Om) fun e h2 he => ?_
      grind
  obtain ⟨r, h2, hrn, hmin⟩ := key (n - 2) 2 (Om) (Om) (fun e h1 h2 => Om);refine ⟨r, ⟨h2, fun d hd => ?_⟩, hrn, ?_⟩
  · have YU : d ≠ 0 := fun h => by subst h; have := Nat.eq_zero_of_zero_dvd hd; omega
    have hle := Nat.le_of_dvd (Om) hd;by_cases h1 : d = 1
    · exact .inl h1
    right;by_cases hlt : d < r
    · exact absurd (Nat.dvd_trans hd hrn) (hmin d (Om) hlt)
    omega
  obtain ⟨k, hk⟩ := hrn;by_cases YV : k = 1
  · grind
  right;have YW : k ≠ 0 := fun h => by subst h; omega
  have : ¬ k < r := fun hlt => hmin k (Om) hlt ⟨r, by rw [hk, Nat.mul_comm]⟩;rw [hk];exact Nat.mul_le_mul_left r (Om)
theorem jG (hn : 2 ≤ n) (hF : n < F * F) (h : ∀ r, lV r → r ∣ n → F ∣ r - 1) : lV n := by
 obtain ⟨r, hr, hd, hc⟩ := ql hn;rcases hc with rfl | hc
 ·exact hr
 have h2 := hr.1;have := Nat.le_of_dvd (Om) (h r hr hd);have : F * F ≤ r * r := Nat.mul_le_mul (Om) (Om);omega
def EI (n : Nat) : Nat → Nat → Bool
 | 0, _ => true
 | k + 1, d => n % d != 0 && EI n k (d + 1)
theorem tF {n : Nat} : ∀ (k d : Nat), EI n k d = true → ∀ e, d ≤ e → e < d + k → ¬ e ∣ n
  | 0, d, _, e, h1, h2 => Om
  | k + 1, d, h, e, h1, h2 => by
    simp only [EI, Bool.and_eq_true, bne_iff_ne, ne_eq] at h;by_cases he : e = d
    · subst he; exact fun hd => h.1 (Nat.mod_eq_zero_of_dvd hd)
    exact tF k (d + 1) h.2 e (Om) (Om)
theorem gX (hn : 2 ≤ n) (hk : n < (k + 2) * (k + 2)) (h : EI n k 2 = true) : lV n := by
 obtain ⟨r, hr, hd, hc⟩ := ql hn;rcases hc with rfl | hc
 ·exact hr
 have hlt : r < k + 2 := Classical.byContradiction fun hge => by have : (k + 2) * (k + 2) ≤ r * r := Nat.mul_le_mul (Om) (Om);omega
 exact absurd hd (tF k 2 h r hr.1 (Om))
def pw (n : Nat) : Nat → Nat → Nat → Nat
 | 0, _, _ => 1 % n
 | f + 1, a, e => if e = 0 then 1 % n else if e % 2 = 0 then pw n f (a * a % n) (e / 2) else a * pw n f (a * a % n) (e / 2) % n
theorem pL (n : Nat) : ∀ (f a e : Nat), e < 2 ^ f → pw n f a e = a ^ e % n
  | 0, a, e, h => by
    obtain rfl : e = 0 := by rw [Nat.pow_zero] at h; omega
    rfl
  | f + 1, a, e, h => by
    rw [pw];by_cases h0 : e = 0
    · rw [if_pos h0, h0, Nat.pow_zero]
    rw [if_neg h0, pL n f (a * a % n) (e / 2) (by rw [Nat.pow_succ] at h; omega), ← Nat.pow_mod, ← Nat.pow_two, ← Nat.pow_mul];by_cases h2 : e % 2 = 0
    · rw [if_pos h2, show 2 * (e / 2) = e by omega]
    rw [if_neg h2, Nat.mul_mod, Nat.mod_mod, ← Nat.mul_mod, Nat.mul_comm, ← Nat.pow_succ, show (2 * (e / 2)).succ = e by omega]
theorem iY (hq : lV q) (f a : Nat) (h : (decide (1 < n) && decide (n - 1 = q * m) && decide (n < 2 ^ f) && decide (pw n f a (n - 1) = 1) && decide (0 < pw n f a m) && decide (Nat.gcd (pw n f a m - 1) n = 1)) = true) (hr : lV r) (hd : r ∣ n) : q ∣ r - 1 := by
 simp only [Bool.and_eq_true, decide_eq_true_eq] at h;obtain ⟨⟨⟨⟨⟨h0, hm⟩, hf⟩, h1⟩, hp⟩, h2⟩ := h;have hmn : m ≤ n - 1 := by rw [hm]; exact Nat.le_mul_of_pos_left m (by grind)
 rw [pL n f a (n - 1) (Om)] at h1;rw [pL n f a m (Om)] at hp h2;exact Xs (g := a ^ m % n - 1) h0 hq a hm h1 (Om) h2 hr hd
theorem pT (h : Nat.gcd a b = 1) (ha : a ∣ c) (hb : b ∣ c) : a * b ∣ c := Nat.Coprime.mul_dvd_of_dvd_of_dvd h ha hb
theorem Cd : lV 430751 := gX (k := 660) (Om) (Om) (by decide +kernel)
theorem Ml : lV 4153 := gX (k := 66) (Om) (Om) (by decide +kernel)
theorem Io : lV 75707 := gX (k := 280) (Om) (Om) (by decide +kernel)
theorem PE : lV 127 := gX (k := 12) (Om) (Om) (by decide +kernel)
theorem zI : lV 8574133 := gX (k := 2930) (Om) (Om) (by decide +kernel)
theorem Tf : lV 31757755568855353 :=
 jG (F := 430751 * 4153) (Om) (Om) fun _ hr hd => pT (by decide +kernel) (iY (m := 73726481352) Cd 60 2 (by decide +kernel) hr hd) (iY (m := 7646943310584) Ml 60 2 (by decide +kernel) hr hd)
theorem Sf : lV 1919519569386763 :=
 jG (F := 8574133 * 127) (Om) (Om) fun _ hr hd => pT (by decide +kernel) (iY (m := 223873314) zI 60 2 (by decide +kernel) hr hd) (iY (m := 15114327318006) PE 60 2 (by decide +kernel) hr hd)
theorem TY : lV 75445702479781427272750846543864801 :=
 jG (F := 1919519569386763 * 75707) (Om) (Om) fun _ hr hd => pT (by decide +kernel) (iY (m := 39304471641247389600) Sf 120 2 (by decide +kernel) hr hd) (iY (m := 996548568557483816196003626400) Io 120 2 (by decide +kernel) hr hd)
theorem TR : lV 74058212732561358302231226437062788676166966415465897661863160754340907 :=
 jG (F := 75445702479781427272750846543864801 * 31757755568855353) (Om) (Om) fun _ hr hd => pT (by decide +kernel) (iY (m := 981609426360740691344999861639072106) TY 240 2 (by decide +kernel) hr hd) (iY (m := 2331972502653487852620185443007392165117953542933313402) Tf 240 2 (by decide +kernel) hr hd)
theorem UM : lV 57896044618658097711785492504343953926634992332820282019728792003956564819949 :=
 jG (F := 74058212732561358302231226437062788676166966415465897661863160754340907) (Om) (Om) fun _ hr hd => iY (m := 781764) TR 256 2 (by decide +kernel) hr hd
end Nt
end Go.Proofs.YtgfafidlkldeaaaGreat
