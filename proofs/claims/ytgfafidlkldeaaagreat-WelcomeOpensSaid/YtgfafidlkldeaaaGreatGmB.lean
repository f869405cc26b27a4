/- gcm: products of pairs. No conditions: contracts of functions. -/
import Derived.Test.YtgfafidlkldeaaaGreatSecE
import Derived.Test.YtgfafidlkldeaaaGreatMsZ
import Derived.Test.YtgfafidlkldeaaaGreatBigC
set_option linter.unusedVariables false
set_option linter.unusedSimpArgs false
set_option maxHeartbeats 4000000
set_option maxRecDepth 4000
namespace Go.Proofs.YtgfafidlkldeaaaGreat
variable {args cs : Array Value} {h0 h1 h2 h4 h5 : Hd} {z : Int} {ident key l seed : Lb} {a b base c g k n o s : Nat} {A : Oa} {Q : Option Addr → Nat → List UInt8 → Prop} {P : Program} {dT e sT t ty : TypeId} {w w' : World}
section
open Go.RowKit Tryz
section
variable {f : FuncId} {fn : Func} {c : Code} {R : Ending → World → Prop}
theorem yY {p q x : Tmp} {ty Vq : TypeId} (h : fn.results = #[.cell p ty, .cell q Vq, .tmp x]) (tmps : Array Value) {g g' : Nat} {t t' : TypeId} {cs cs' : Array Value} {v : Value} {d d' : TypeDesc}
  (hp : tmps.getD p undef = .pointer (some ⟨g, 0, none⟩)) (hq : tmps.getD q undef = .pointer (some ⟨g', 0, none⟩)) (hx : tmps.getD x undef = v) (hg : ao w g t cs) (Vr : ao w g' t' cs') (hu : P.underlying ty = some d) (hd : (match d with | .struct _ | .array _ _ => true | _ => false) = true) (hi : (P.info? ty).map (·.size) = some cs.size)
  (Vs : P.underlying Vq = some d') (Vt : (match d' with | .struct _ | .array _ _ => true | _ => false) = true) (hi' : (P.info? Vq).map (·.size) = some cs'.size) : (results fn tmps).run P w = .ok (.tuple #[.agg cs, .agg cs', v]) w := by
 have Vu : tmps[p]?.getD undef = .pointer (some ⟨g, 0, none⟩) := by simpa using hp
 have Vv : tmps[q]?.getD undef = .pointer (some ⟨g', 0, none⟩) := by simpa using hq
 have Vw : tmps[x]?.getD undef = v := by simpa using hx
 simp [results, h, Vu, Vv, Vw, asAddr, run_loadVar_row w g t ty cs _ d hg hu hd hi, run_loadVar_row w g' t' Vq cs' _ d' Vr Vs Vt hi']
theorem zT {ty Vq : TypeId} {s s' : Nat} {d d' : TypeDesc} (N : Nat) {u t x : Tmp} (hf : P.funcs[f]? = some fn) (hb : fn.body = some c) (hN : fn.ntmps = N) (hr : fn.results = #[.cell u ty, .cell t Vq, .tmp x]) (hu : P.underlying ty = some d) (hd : (match d with | .struct _ | .array _ _ => true | _ => false) = true) (hs : (P.info? ty).map (·.size) = some s)
  (Vr : P.underlying Vq = some d') (Vs : (match d' with | .struct _ | .array _ _ => true | _ => false) = true) (Vt : (P.info? Vq).map (·.size) = some s') (hsz : Nat.ble args.size N = true)
  (h : ∀ Q : Exit → Act → World → Prop, (∀ {N : Nat} {L : List (Nat × Value)} {w : World} {g g' : Nat} {e e' : TypeId} {cs cs' : Array Value} {v : Value}, look L u = some (.pointer (some ⟨g, 0, none⟩)) → look L t = some (.pointer (some ⟨g', 0, none⟩)) → look L x = some v → ao w g e cs → cs.size = s → ao w g' e' cs' → cs'.size = s' → R (.returned (.tuple #[.agg cs, .agg cs', v])) w → WQ Q .ret N L w) → WC P Q c N (gk 0 args.toList) w) : Calls P f args w R :=
 fk N hf hb hN hsz fun Q hQ => h Q fun {N L w g g' e e' cs cs' v} hv ht hx hg hz Vu Vv hR a ha => hQ (bodyPost_ret (v := .tuple #[.agg cs, .agg cs', v]) (yY hr _ (cK (ha.has _ _ hv)) (cK (ha.has _ _ ht)) (cK (ha.has _ _ hx)) hg Vu hu hd (by rw [hz]; exact hs) Vr Vs (by rw [Vv]; exact Vt)) ha.defers hR)
end
attribute [local irreducible] Y Ef WL WC WK WQ WM cv WN WF cZ WJ gI WR qK
open Wire Nd M20 Hk
def qZ (z : Nat) : List UInt8 := ((List.replicate 32 (0 : UInt8)).set 0 (UInt8.ofNat z)).set 1 (UInt8.ofNat (z / 256))
theorem kX (z : Nat) : (qZ z).length = 32 := by unfold qZ; simp
theorem mB (z : Nat) (hz : z ≤ 60000) (w : World) :
  Ct 28 #[.int .i64 (z : Int)] w fun e w' => ∃ g, e = .returned (.slice (some ⟨g, 0, none⟩) 32 32) ∧ Bs w' (some ⟨g, 0, none⟩) 32 (qZ z) ∧ w.heap.size ≤ g ∧ Ext w w' := by
 have E := Ext.refl w;refine ai 15 func28 rfl rfl rfl rfl ?_;intro _ hret;refine aU ?_;refine ag (dD (n := 32) (z := .int .u8 0) (bytes := 1) rfl rfl Tn.u Kr rfl rfl rfl rfl Om Om) rfl ?_;rintro _ _ ⟨g1, rfl, D1, Vq, ex⟩;replace E := E.ext ex;replace D1 := D1.congr (cs' := dd (List.replicate 32 0)) Kr;refine au 8 ?_;refine al (bo rfl Tn.u Tn.u (show _ = ((UInt8.ofNat z).toNat : Int) from (IntKind.wrap_u8' _).trans (by rw [UInt8.toNat_ofNat']; omega))) ?_;refine au 1 ?_;refine al (dG rfl rfl Om (show _ = ((z / 256 : Nat) : Int) from (IntWalk.i64_quo _ _ Om).trans Om)) ?_;refine al (bo rfl Tn.u Tn.u (show _ = ((UInt8.ofNat (z / 256)).toNat : Int) from (IntKind.wrap_u8' _).trans (by rw [UInt8.toNat_ofNat']; omega))) ?_;refine al (aB rfl rfl Tn.u Kr (j := 0) rfl Om) ?_;refine ag (aq (i := 0) rfl rfl rfl Kr D1 (by rw [ba]; decide)) rfl ?_;rintro _ _ ⟨rfl, D2, cg⟩;replace E := E.aA cg Vq; rw [gE] at D2;refine al (aB rfl rfl Tn.u Kr (j := 1) rfl Om) ?_;refine ag (aq (i := 1) rfl rfl rfl Kr D2 (by rw [ba, List.length_set]; decide)) rfl ?_;rintro _ _ ⟨rfl, D3, cg⟩;replace E := E.aA cg Vq; rw [gE] at D3;refine aU ?_;refine hret rfl ?_;exact ⟨g1, rfl, bh D3 (kX z), Vq, E⟩
def OC : ByteArray := ⟨#[105, 110, 105, 116]⟩
def SX : ByteArray := ⟨#[98, 111, 120]⟩
def OA : ByteArray := ⟨#[115, 105, 103, 110]⟩
def Mf : ByteArray := ⟨#[75, 101, 121, 80, 97, 99, 107, 97, 103, 101, 84, 66, 83]⟩
theorem vp : Mf.size ≤ 1000 := by decide
def wv (seed : Lb) : List UInt8 := Kdf.label seed OC.data.toList [] 32
def IE (seed : Lb) : List UInt8 := Kdf.label seed SX.data.toList [] 32
def yg (seed : Lb) : List UInt8 := Kdf.label seed OA.data.toList [] 32
def Bt (ident seed : Lb) : cw := ⟨mS (IE seed), Sg.mS (yg seed), ident, 1, [], []⟩
def tC (ident seed : Lb) : cw := (Bt ident seed).put (Sg.sig (yg seed) (Sg.text M8.data.toList (iB (Bt ident seed) [] 0)))
def Ma (ident seed : Lb) : Pack := ⟨mS (wv seed), tC ident seed, List.replicate 64 0⟩
def RA (ident seed : Lb) : Pack := ⟨mS (wv seed), tC ident seed, Sg.sig (yg seed) (Sg.text Mf.data.toList (me (Ma ident seed)))⟩
theorem fW (seed : Lb) : (yg seed).length = 32 := dK _ _ _ _
theorem DU (seed : Lb) (h1 : 1 ≤ ident.length) (h2 : ident.length ≤ 64) : aI (lr (Bt ident seed)) :=
 ⟨cX _, Sg.cX _, (by show (List.replicate 64 (0 : UInt8)).length = 64; simp), h1, h2, (show 1 ≤ 1 by omega), (show 1 ≤ 3 by omega), .inl rfl⟩
theorem Ob (seed : Lb) (h1 : 1 ≤ ident.length) (h2 : ident.length ≤ 64) : jv (Bt ident seed) (yg seed) [] 0 = (tC ident seed, 0) :=
 II (DU seed h1 h2) (.inl rfl) (fW seed)
theorem DF (seed : Lb) (h1 : 1 ≤ ident.length) (h2 : ident.length ≤ 64) : aI (tC ident seed) := Cg (DU seed h1 h2) (Sg.kL _ _)
theorem mO (seed : Lb) (h1 : 1 ≤ ident.length) (h2 : ident.length ≤ 64) : dk (Ma ident seed) :=
 ⟨cX _, ⟨DF seed h1 h2, rfl⟩, (by show (List.replicate 64 (0 : UInt8)).length = 64; simp)⟩
theorem vZ (seed : Lb) (h1 : 1 ≤ ident.length) (h2 : ident.length ≤ 64) : dk (RA ident seed) :=
 ⟨cX _, ⟨DF seed h1 h2, rfl⟩, Sg.kL _ _⟩
theorem fA {p : Pack} (h : dk p) : p.Small := by obtain ⟨h1, ⟨⟨o1, o2, o3, o4, o5, o6, o7, o8⟩, hs⟩, h3⟩ := h;refine ⟨by omega, by omega, ?_⟩;refine ⟨by show p.leaf.box.length ≤ 200; omega, by show p.leaf.sign.length ≤ 200; omega, by show p.leaf.ident.length ≤ 200; omega, by show p.leaf.parent.length ≤ 200; omega, by show p.leaf.sig.length ≤ 200; omega, ?_⟩;exact ⟨Nat.zero_le _, Nat.zero_le _, Nat.zero_le _⟩
theorem Hr (seed : Lb) (h2 : ident.length ≤ 64) : (Bt ident seed).Fit :=
 ⟨by show (mS _).length ≤ _; rw [cX]; omega, by show (Sg.mS _).length ≤ _; rw [Sg.cX]; omega, by show ident.length ≤ _; omega, by show (0 : Nat) ≤ _; omega, by show (0 : Nat) ≤ _; omega⟩
theorem NJ (seed : Lb) (h2 : ident.length ≤ 64) : (ey (Bt ident seed)).length ≤ 80000 := by refine Nat.le_trans (yp ?_) (show 900 ≤ 80000 by omega);exact ⟨by show (mS _).length ≤ _; rw [cX]; omega, by show (Sg.mS _).length ≤ _; rw [Sg.cX]; omega, by show ident.length ≤ _; omega, by show (0 : Nat) ≤ _; omega, by show (0 : Nat) ≤ _; omega, Nat.zero_le _, Nat.zero_le _, Nat.zero_le _⟩
def qE (w : World) (cs : Array Value) (a b c : Lb) : Prop := ∃ h0 h1 h2 : Hd, cs = fx h0 h1 h2 ∧ py w h0 a ∧ py w h1 b ∧ py w h2 c
theorem qE.ext {a b c : Lb} (h : qE w cs a b c) (e : Ext w w') : qE w' cs a b c := by obtain ⟨h0, h1, h2, rfl, b0, b1, b2⟩ := h;exact ⟨h0, h1, h2, rfl, Bs.ext b0 e, Bs.ext b1 e, Bs.ext b2 e⟩
theorem JP {a b c d e : Lb} (hs : s < 256) (x0 : Q h0.A h0.n a) (x1 : Q h1.A h1.n b) (x2 : Q h2.A h2.n c) (x4 : Q h4.A h4.n d) (x5 : Q h5.A h5.n e) : jT (fun h xs => Q h.A h.n xs) (ie h0 h1 h2 s h4 h5) ⟨a, b, c, s, d, e⟩ :=
 ⟨h0, h1, h2, h4, h5, rfl, hs, x0, x1, x2, x4, x5⟩
theorem oZ {i g : Hd} {l : cw} {a k : Lb} (hs : l.src < 256) (x : Q i.A i.n a) (x0 : Q h0.A h0.n l.box) (x1 : Q h1.A h1.n l.sign) (x2 : Q h2.A h2.n l.ident) (x4 : Q h4.A h4.n l.parent) (x5 : Q h5.A h5.n l.sig) (y : Q g.A g.n k) : iA (fun h xs => Q h.A h.n xs) (dH i h0 h1 h2 l.src h4 h5 g) ⟨a, l, k⟩ :=
 ⟨i, h0, h1, h2, h4, h5, g, rfl, hs, x, x0, x1, x2, x4, x5, y⟩
theorem four {d : Nat} (h1 : a < n) (h2 : b < n) (h3 : c < n) (h4 : d < n) : ∀ g ∈ [a, b, c, d], g < n := by simp; omega
def sX (base : Nat) (w : World) (cs : Array Value) (p : Pack) : Prop := iA (fun h xs => Fb base w h.A h.n xs) cs p
theorem sX.at {p : Pack} (h : sX base w cs p) : dx w cs p := iA.imp h fun _ _ b => b.1
theorem sX.ext {p : Pack} (h : sX base w cs p) (e : Ext w w') : sX base w' cs p := iA.imp h fun _ _ b => b.ext e
def CL (base : Nat) (w : World) (cs : Array Value) (a b c : Lb) : Prop := ∃ h0 h1 h2 : Hd, cs = fx h0 h1 h2 ∧ Fb base w h0.A h0.n a ∧ Fb base w h1.A h1.n b ∧ Fb base w h2.A h2.n c
theorem CL.ext {a b c : Lb} (h : CL base w cs a b c) (e : Ext w w') : CL base w' cs a b c := by obtain ⟨h0, h1, h2, q, x, y, z⟩ := h; exact ⟨h0, h1, h2, q, x.ext e, y.ext e, z.ext e⟩
theorem CL.at {a b c : Lb} (h : CL base w cs a b c) : qE w cs a b c := by obtain ⟨h0, h1, h2, e, x, y, z⟩ := h; exact ⟨h0, h1, h2, e, x.1, y.1, z.1⟩
theorem pM {B : Oa} {d : Nat} (w : World) (HA : Bs w A n ident) (h1 : 1 ≤ n) (h2 : n ≤ 64) (HB : Bs w B 32 seed) :
  Ct 27 #[.slice A n c, .slice B 32 d] w fun e w' => ∃ cs ks, e = .returned (.tuple #[.agg cs, .agg ks, .int .u8 0]) ∧ sX w.heap.size w' cs (RA ident seed) ∧ Nz 3 w' cs ∧ CL w.heap.size w' ks (lv (wv seed)) (lv (IE seed)) (yg seed) ∧ Ext w w' := by
 have hil := HA.1;have F := aE.refl [] w;have KI : Kp w.heap.size [] (fun w => Bs w A n ident) w := Kp.bs HA (by simp);have KB : Kp w.heap.size [] (fun w => Bs w B 32 seed) w := Kp.bs HB (by simp);refine zT (s := 8) (s' := 3) 83 func27 rfl rfl rfl underlying29 rfl Kr underlying51 rfl Kr rfl ?_;intro Q hret;refine aU ?_;intro _ Vv B4 Vy ex;have VU := ex.size;replace F := F.grow ex Vy;replace KI := KI.grow ex Vy;replace KB := KB.grow ex Vy;refine aU ?_;intro _ Vw B5 Vt ex;have VI : Vv < Vw := Nat.lt_of_lt_of_le B4.lt Vt;replace F := F.grow ex Vt;replace KI := KI.grow ex Vt;replace KB := KB.grow ex Vt;replace B4 := B4.grow ex Vt;refine aU ?_;intro _ Vx B7 Vs ex;have VJ : Vv < Vx := Nat.lt_of_lt_of_le B4.lt Vs;have VK : Vw < Vx := Nat.lt_of_lt_of_le B5.lt Vs;replace F := F.grow ex Vs;replace KI := KI.grow ex Vs;replace KB := KB.grow ex Vs;replace B4 := B4.grow ex Vs;replace B5 := B5.grow ex Vs;refine aU ?_;intro _ Vz B8 Vr ex;have VL : Vv < Vz := Nat.lt_of_lt_of_le B4.lt Vr;have VM : Vw < Vz := Nat.lt_of_lt_of_le B5.lt Vr;have VN : Vx < Vz := Nat.lt_of_lt_of_le B7.lt Vr;replace F := F.grow ex Vr;replace KI := KI.grow ex Vr;replace KB := KB.grow ex Vr;replace B4 := B4.grow ex Vr;replace B5 := B5.grow ex Vr;replace B7 := B7.grow ex Vr;refine aU ?_;replace B4 := B4.congr (cs' := dH an an an an 0 an an an) rfl;replace B5 := B5.congr (cs' := fx an an an) rfl;replace B7 := B7.congr (cs' := dH an an an an 0 an an an) rfl;replace B8 := B8.congr (cs' := fx an an an) rfl;refine aC func67 rfl (iR B 32 d OC seed _ KB.out Om (by decide)) ?_;rintro e _ ⟨A1, c1, rfl, ⟨H1, _⟩, ex⟩;obtain ⟨F,KI,KB,B4,B5,B7,B8⟩ := iO ex F KI KB B4 B5 B7 B8;refine aU ?_;have a2 := F.size; have a4 := four B8.lt B7.lt B5.lt B4.lt;refine aC func66 rfl (qi A1 32 c1 (wv seed) _ H1 Om) ?_;rintro e w2 ⟨Aa, ca, Ab, cb, rfl, Ha, Hb, _, ex⟩;obtain ⟨F,KI,KB,B4,B5,B7,B8⟩ := iO ex F KI KB B4 B5 B7 B8;have Ja := Ha.fb.kk a4; have Jb := Hb.fb.kk a4;refine aU ?_;intro _ D cg;have ex := aE.one cg;clear cg;obtain ⟨F,KI,KB,B4,B5,B7,Ja,Jb⟩ := KJ ex F KI KB B4 B5 B7 Ja Jb;replace B8 := D; clear D;replace B8 := B8.congr (cs' := fx ⟨Aa, 32, ca⟩ an an) rfl;refine aU ?_;intro _ D cg;have ex := aE.one cg;clear cg;obtain ⟨F,KI,KB,B4,B5,B8,Ja,Jb⟩ := KJ ex F KI KB B4 B5 B8 Ja Jb;replace B7 := D; clear D;replace B7 := B7.congr (cs' := dH ⟨Ab, 32, cb⟩ an an an 0 an an an) rfl;refine aU ?_;refine aC func67 rfl (iR B 32 d SX seed _ KB.out Om (by decide)) ?_;rintro e _ ⟨A3, c3, rfl, ⟨H3, _⟩, ex⟩;obtain ⟨F,KI,KB,B4,B5,B7,B8,Ja,Jb⟩ := tU ex F KI KB B4 B5 B7 B8 Ja Jb;refine aU ?_;have b2 := F.size; have b4 := four B8.lt B7.lt B5.lt B4.lt;refine aC func66 rfl (qi A3 32 c3 (IE seed) _ H3 Om) ?_;rintro e _ ⟨Ac, cc, Ad, cd, rfl, Hc, Hd, _, ex⟩;obtain ⟨F,KI,KB,B4,B5,B7,B8,Ja,Jb⟩ := tU ex F KI KB B4 B5 B7 B8 Ja Jb;have Jc := Hc.fb.kk b4; have Jd := Hd.fb.kk b4;refine aU ?_;intro _ D cg;have ex := aE.one cg;clear cg;obtain ⟨F,KI,KB,B4,B5,B7,Ja,Jb,Jc⟩ := ma ex F KI KB B4 B5 B7 Ja Jb Jc;replace Jd := Jd.bk ex;replace B8 := D; clear D;replace B8 := B8.congr (cs' := fx ⟨Aa, 32, ca⟩ ⟨Ac, 32, cc⟩ an) rfl;refine aU ?_;intro _ D cg;have ex := aE.one cg;clear cg;obtain ⟨F,KI,KB,B4,B5,B8,Ja,Jb,Jc⟩ := ma ex F KI KB B4 B5 B8 Ja Jb Jc;replace Jd := Jd.bk ex;replace B7 := D; clear D;replace B7 := B7.congr (cs' := dH ⟨Ab, 32, cb⟩ ⟨Ad, 32, cd⟩ an an 0 an an an) rfl;refine aU ?_;have c2 := F.size; have c4 := four B8.lt B7.lt B5.lt B4.lt;refine aC func67 rfl (iR B 32 d OA seed _ KB.out Om (by decide)) ?_;rintro e _ ⟨Ae, ce, rfl, He, ex⟩;obtain ⟨F,KI,B4,B5,B7,B8,Ja,Jb,Jc⟩ := tU ex F KI B4 B5 B7 B8 Ja Jb Jc;replace Jd := Jd.ext ex;have Je := He.fb.kk c4;refine aU ?_;intro _ D cg;have ex := aE.one cg;clear cg;obtain ⟨F,KI,B4,B5,B7,Ja,Jb,Jc,Jd⟩ := ma ex F KI B4 B5 B7 Ja Jb Jc Jd;replace Je := Je.bk ex;replace B8 := D; clear D;replace B8 := B8.congr (cs' := fx ⟨Aa, 32, ca⟩ ⟨Ac, 32, cc⟩ ⟨Ae, 32, ce⟩) rfl;refine aU ?_;have d4 := four B8.lt B7.lt B5.lt B4.lt;refine aC func29 rfl (Lm (c := ce) Je.out.bs (fW seed)) ?_;rintro e _ ⟨Ag, cg, rfl, Hg, _, ex⟩;obtain ⟨F,KI,B4,B5,B7,B8,Ja,Jb,Jc⟩ := tU ex F KI B4 B5 B7 B8 Ja Jb Jc;obtain ⟨Jd,Je⟩ := aZ ex Jd Je;have Jg := Hg.fb.kk d4;refine aU ?_;intro _ D cg;have ex := aE.one cg;clear cg;obtain ⟨F,KI,B4,B5,B8,Ja,Jb,Jc,Jd⟩ := ma ex F KI B4 B5 B8 Ja Jb Jc Jd;obtain ⟨Je,Jg⟩ := iz ex Je Jg;replace B7 := D; clear D;replace B7 := B7.congr (cs' := dH ⟨Ab, 32, cb⟩ ⟨Ad, 32, cd⟩ ⟨Ag, 32, cg⟩ an 0 an an an) rfl;refine aU ?_;intro _ D cg;have ex := aE.one cg;clear cg;obtain ⟨F,KI,B4,B5,B8,Ja,Jb,Jc,Jd⟩ := ma ex F KI B4 B5 B8 Ja Jb Jc Jd;obtain ⟨Je,Jg⟩ := iz ex Je Jg;replace B7 := D; clear D;replace B7 := B7.congr (cs' := dH ⟨Ab, 32, cb⟩ ⟨Ad, 32, cd⟩ ⟨Ag, 32, cg⟩ ⟨A, n, c⟩ 0 an an an) rfl;refine aU ?_;intro _ D cg;have ex := aE.one cg;clear cg;obtain ⟨F,KI,B4,B5,B8,Ja,Jb,Jc,Jd⟩ := ma ex F KI B4 B5 B8 Ja Jb Jc Jd;obtain ⟨Je,Jg⟩ := iz ex Je Jg;replace B7 := D; clear D;replace B7 := B7.congr (cs' := dH ⟨Ab, 32, cb⟩ ⟨Ad, 32, cd⟩ ⟨Ag, 32, cg⟩ ⟨A, n, c⟩ 1 an an an) rfl;refine aU ?_;have HL : eE _ _ (Bt ident seed) := JP (Q := Bs _) (h0 := ⟨Ad, 32, cd⟩) (h1 := ⟨Ag, 32, cg⟩) (h2 := ⟨A, n, c⟩) (h4 := an) (h5 := an) (s := 1) Om Jd.out.bs Jg.out.bs KI.out (Bs.nil _ _) (Bs.nil _ _);have Vu := F.size;have m4 := four B8.lt B7.lt B5.lt B4.lt;refine aC func68 rfl (xq (z := 0) _ HL (Hr seed Om) (NJ seed Om) Je.out.bs (show 32 ≤ 100 by omega) (Bs.nil _ none) (Nat.zero_le 100) (Ob seed Om Om)) ?_;rintro e w7 ⟨_, rfl, LA, IT, ex⟩;obtain ⟨F,B4,B5,B7,B8,Ja,Jb,Jc,Je⟩ := tU ex F B4 B5 B7 B8 Ja Jb Jc Je
 obtain ⟨i0, i1, i2, i4, i5, rfl, _, ⟨l0, _⟩, ⟨l1, _⟩, ⟨l2, _⟩, ⟨l4, _⟩, ⟨l5, _⟩⟩ := LA; have L0 := l0.kk m4; have L1 := l1.kk m4; have L2 := l2.kk m4; have L4 := l4.kk m4; have L5 := l5.kk m4; have LT : Kp _ [Vz, Vx, Vw, Vv] (fun w => ∀ b o, i2.A = some ⟨b, o, none⟩ → ∃ cur, ao w b 5 cur) w7 := ⟨Nat.le_refl _, fun w2 hw b o e => by obtain ⟨cur, hb⟩ := IT _ _ _ rfl b o e; exact ⟨cur, (hw b hb.lt fun hm => by have h1 := l2.2 (by have := l2.1.1; have h2 : 1 ≤ (tC ident seed).ident.length := (show 1 ≤ ident.length by omega); omega) b o e; have h3 := m4 b hm; omega).trans hb⟩⟩
 refine aU ?_;intro _ VF B9 Vq ex;have VO : Vv < VF := Nat.lt_of_lt_of_le B4.lt Vq;have VP : Vw < VF := Nat.lt_of_lt_of_le B5.lt Vq;have VQ : Vx < VF := Nat.lt_of_lt_of_le B7.lt Vq;have VR : Vz < VF := Nat.lt_of_lt_of_le B8.lt Vq;replace F := F.grow ex Vq;replace B4 := B4.grow ex Vq;replace B5 := B5.grow ex Vq;replace B7 := B7.grow ex Vq;replace B8 := B8.grow ex Vq;replace Ja := Ja.grow ex Vq;replace Jb := Jb.grow ex Vq;replace Jc := Jc.grow ex Vq;replace Je := Je.grow ex Vq;replace LT := LT.grow ex Vq;replace L0 := L0.grow ex Vq;replace L1 := L1.grow ex Vq;replace L2 := L2.grow ex Vq;replace L4 := L4.grow ex Vq;replace L5 := L5.grow ex Vq;refine aU ?_;intro _ D cg;have ex := aE.one cg;clear cg;obtain ⟨F,B4,B5,B7,B8,Ja,Jb,Jc,Je⟩ := ma ex F B4 B5 B7 B8 Ja Jb Jc Je;obtain ⟨LT,L0,L1,L2,L4,L5⟩ := nQ ex LT L0 L1 L2 L4 L5;replace B9 := D; clear D;refine aU ?_;refine cu [(3, [Vx]), (5, [Vx])] Kr 6 rfl ?_; intro VS ex VT;obtain ⟨F,B4,B5,B7,B8,Ja,Jb,Jc,Je⟩ := tU ex F B4 B5 B7 B8 Ja Jb Jc Je;obtain ⟨LT,L0,L1,L2,L4,L5,B9⟩ := iO ex LT L0 L1 L2 L4 L5 B9;refine gQ [(0, []), (2, [])] ?_;refine aU ?_;refine RE 1 3 Kr ?_ ?_
 ·skip;have q7 := B7.lt;have q8 := B8.lt;have q4 := B4.lt;have q5 := B5.lt;refine dt rfl (dD (n := 64) (z := .int .u8 0) (bytes := 1) rfl rfl underlying23 Kr rfl rfl rfl rfl Om Om) rfl ?_;rintro _ wm ⟨gm, rfl, Dm, hgm, ex⟩;refine ⟨aE.of ex _, ?_⟩;obtain ⟨F,B4,B5,B7,B8,Ja,Jb,Jc,Je⟩ := tU ex F B4 B5 B7 B8 Ja Jb Jc Je;obtain ⟨LT,L0,L1,L2,L4,L5⟩ := iJ ex LT L0 L1 L2 L4 L5;have Jm : Kp wm.heap.size [Vz, Vx, Vw, Vv] (fun w => Bs w (some ⟨gm, 0, none⟩) 64 (List.replicate 64 0)) wm := Kp.bs (wX Dm (by rfl)) (fun _ g hg o e => by injection e with e; injection e with e _ _; simp at hg; omega);refine cJ 3 Kr ?_; refine dt rfl (aP (o := 1) rfl rfl Kr B7 Nb (aO rfl)) rfl ?_;rintro _ VA ⟨rfl, D, cg⟩;have ex := aE.one cg;clear cg;refine ⟨ex, ?_⟩;obtain ⟨F,B4,B5,B8,Ja,Jb,Jc,Je,LT⟩ := ma ex F B4 B5 B8 Ja Jb Jc Je LT;obtain ⟨L0,L1,L2,L4,L5,Jm⟩ := nQ ex L0 L1 L2 L4 L5 Jm;replace B7 := D; clear D;refine gQ [(4, [])] ?_;refine aU ?_;refine cJ 5 Kr ?_; refine dt rfl (aq (i := 7) rfl rfl rfl Kr B7 Nb) rfl ?_;rintro _ VB ⟨rfl, D, cg⟩;have ex := aE.one cg;clear cg;refine ⟨ex, ?_⟩;obtain ⟨F,B4,B5,B8,Ja,Jb,Jc,Je,LT⟩ := ma ex F B4 B5 B8 Ja Jb Jc Je LT;obtain ⟨L0,L1,L2,L4,L5,Jm⟩ := nQ ex L0 L1 L2 L4 L5 Jm;replace B7 := D; clear D;refine cN Kr ?_;replace B7 := B7.congr (cs' := dH ⟨Ab, 32, cb⟩ i0 i1 i2 (tC ident seed).src i4 i5 ⟨some ⟨gm, 0, none⟩, 64, 64⟩) rfl;refine aU ?_;have HP : dx _ _ (Ma ident seed) := oZ (Q := Bs _) (i := ⟨Ab, 32, cb⟩) (g := ⟨some ⟨gm, 0, none⟩, 64, 64⟩) (show 1 < 256 by omega) Jb.out.bs L0.out.bs L1.out.bs L2.out.bs L4.out.bs L5.out.bs Jm.out;refine aC func69 rfl (lu _ HP (fA (mO seed Om Om)).fit) ?_;rintro e wt ⟨At, kt, ct, zt, rfl, Tt, hkt, ex⟩;obtain ⟨F,B4,B5,B7,B8,Ja,Jb,Jc,Je⟩ := tU ex F B4 B5 B7 B8 Ja Jb Jc Je;obtain ⟨LT,L0,L1,L2,L4,L5⟩ := iJ ex LT L0 L1 L2 L4 L5;have Ht := (Tt.1 (mO seed Om Om)).2; have hlt := Ht.1; have hls := lP (fA (mO (ident := ident) seed Om Om));refine aU ?_;have f2 := F.size; have f4 := four B8.lt B7.lt B5.lt B4.lt;refine aC func63 rfl (DQ (s := Mf) (c := ce) (d := ct) Je.out.bs Ht (fW seed) vp Om) ?_;rintro e wl ⟨Al, cl, rfl, Hl, hcl, ex⟩;obtain ⟨F,B4,B5,B7,B8,Ja,Jb,Jc,Je⟩ := tU ex F B4 B5 B7 B8 Ja Jb Jc Je;obtain ⟨LT,L0,L1,L2,L4,L5⟩ := iJ ex LT L0 L1 L2 L4 L5;have Jl := Hl.fb.kk f4;refine aU ?_;intro VC D cg;have ex := aE.one cg;clear cg;obtain ⟨F,B4,B5,B8,Ja,Jb,Jc,Je,LT⟩ := ma ex F B4 B5 B8 Ja Jb Jc Je LT;obtain ⟨L0,L1,L2,L4,L5,Jl⟩ := nQ ex L0 L1 L2 L4 L5 Jl;replace B7 := D; clear D;replace B7 := B7.congr (cs' := dH ⟨Ab, 32, cb⟩ i0 i1 i2 (tC ident seed).src i4 i5 ⟨Al, 64, cl⟩) rfl;refine aU ?_;refine cu [(2, [Vv]), (3, [Vw])] Kr 5 rfl ?_; intro VG ex VH;obtain ⟨F,B4,B5,B7,B8,Ja,Jb,Jc,Je⟩ := tU ex F B4 B5 B7 B8 Ja Jb Jc Je;obtain ⟨LT,L0,L1,L2,L4,L5,Jl⟩ := iO ex LT L0 L1 L2 L4 L5 Jl;refine gQ [(0, []), (1, [2])] ?_;refine aU ?_;refine cJ 2 Kr ?_; refine dt rfl (aP (o := 0) rfl rfl Kr B4 Nb (aO rfl)) rfl ?_;rintro _ VD ⟨rfl, D, cg⟩;have ex := aE.one cg;clear cg;refine ⟨ex, ?_⟩;obtain ⟨F,B5,Ja,Jb,Jc,Je,LT,L0,L1⟩ := ma ex F B5 Ja Jb Jc Je LT L0 L1;obtain ⟨L2,L4,L5,Jl⟩ := dF ex L2 L4 L5 Jl;replace B4 := D; clear D;refine cJ 3 Kr ?_; refine dt rfl (aP (o := 0) rfl rfl Kr B5 Nb (aO rfl)) rfl ?_;rintro _ VE ⟨rfl, D, cg⟩;have ex := aE.one cg;clear cg;refine ⟨ex, ?_⟩;obtain ⟨F,B4,Ja,Jb,Jc,Je,LT,L0,L1⟩ := ma ex F B4 Ja Jb Jc Je LT L0 L1;obtain ⟨L2,L4,L5,Jl⟩ := dF ex L2 L4 L5 Jl;replace B5 := D; clear D;refine gQ [(4, [])] ?_;refine aU ?_;refine cN Kr ?_;replace B4 := B4.congr (cs' := dH ⟨Ab, 32, cb⟩ i0 i1 i2 (tC ident seed).src i4 i5 ⟨Al, 64, cl⟩) rfl;replace B5 := B5.congr (cs' := fx ⟨Aa, 32, ca⟩ ⟨Ac, 32, cc⟩ ⟨Ae, 32, ce⟩) rfl;refine aU ?_;refine hret rfl rfl rfl B4 rfl B5 rfl ?_;exact ⟨_, _, rfl, oZ (Q := Fb _ _) (i := ⟨Ab, 32, cb⟩) (g := ⟨Al, 64, cl⟩) (show 1 < 256 by omega) (Jb.out.mono a2) (L0.out.mono Vu) (L1.out.mono Vu) (L2.out.mono Vu) (L4.out.mono Vu) (L5.out.mono Vu) (Jl.out.mono f2), (fun A' n' c' e b o ha => by have e' : some (Value.slice i2.A i2.n i2.c) = some (.slice A' n' c') := e; injection e' with e'; injection e' with e1 _ _; exact LT.out b o (e1.trans ha)), ⟨⟨Aa, 32, ca⟩, ⟨Ac, 32, cc⟩, ⟨Ae, 32, ce⟩, rfl, Ja.out.mono a2, Jc.out.mono b2, Je.out.mono c2⟩, F.aS So⟩
 skip;refine dt rfl (aP (o := 1) rfl rfl Kr B7 Nb (aO rfl)) rfl ?_;rintro _ VA ⟨rfl, D, cg⟩;have ex := aE.one cg;clear cg;refine ⟨ex, ?_⟩;obtain ⟨F,B4,B5,B8,Ja,Jb,Jc,Je,LT⟩ := ma ex F B4 B5 B8 Ja Jb Jc Je LT;obtain ⟨L0,L1,L2,L4,L5⟩ := ux ex L0 L1 L2 L4 L5;replace B7 := D; clear D;have q7 := B7.lt;have q8 := B8.lt;have q4 := B4.lt;have q5 := B5.lt;refine cJ 1 Kr ?_; refine dt rfl (dD (n := 64) (z := .int .u8 0) (bytes := 1) rfl rfl Tn.u Kr rfl rfl rfl rfl Om Om) rfl ?_;rintro _ wm ⟨gm, rfl, Dm, hgm, ex⟩;refine ⟨aE.of ex _, ?_⟩;obtain ⟨F,B4,B5,B7,B8,Ja,Jb,Jc,Je⟩ := tU ex F B4 B5 B7 B8 Ja Jb Jc Je;obtain ⟨LT,L0,L1,L2,L4,L5⟩ := iJ ex LT L0 L1 L2 L4 L5;have Jm : Kp wm.heap.size [Vz, Vx, Vw, Vv] (fun w => Bs w (some ⟨gm, 0, none⟩) 64 (List.replicate 64 0)) wm := Kp.bs (wX Dm (by rfl)) (fun _ g hg o e => by injection e with e; injection e with e _ _; simp at hg; omega);refine gQ [(4, [])] ?_;refine aU ?_;refine cJ 5 Kr ?_; refine dt rfl (aq (i := 7) rfl rfl rfl Kr B7 Nb) rfl ?_;rintro _ VB ⟨rfl, D, cg⟩;have ex := aE.one cg;clear cg;refine ⟨ex, ?_⟩;obtain ⟨F,B4,B5,B8,Ja,Jb,Jc,Je,LT⟩ := ma ex F B4 B5 B8 Ja Jb Jc Je LT;obtain ⟨L0,L1,L2,L4,L5,Jm⟩ := nQ ex L0 L1 L2 L4 L5 Jm;replace B7 := D; clear D;refine cN Kr ?_;replace B7 := B7.congr (cs' := dH ⟨Ab, 32, cb⟩ i0 i1 i2 (tC ident seed).src i4 i5 ⟨some ⟨gm, 0, none⟩, 64, 64⟩) rfl;refine aU ?_;have HP : dx _ _ (Ma ident seed) := oZ (Q := Bs _) (i := ⟨Ab, 32, cb⟩) (g := ⟨some ⟨gm, 0, none⟩, 64, 64⟩) (show 1 < 256 by omega) Jb.out.bs L0.out.bs L1.out.bs L2.out.bs L4.out.bs L5.out.bs Jm.out;refine aC func69 rfl (lu _ HP (fA (mO seed Om Om)).fit) ?_;rintro e wt ⟨At, kt, ct, zt, rfl, Tt, hkt, ex⟩;obtain ⟨F,B4,B5,B7,B8,Ja,Jb,Jc,Je⟩ := tU ex F B4 B5 B7 B8 Ja Jb Jc Je;obtain ⟨LT,L0,L1,L2,L4,L5⟩ := iJ ex LT L0 L1 L2 L4 L5;have Ht := (Tt.1 (mO seed Om Om)).2; have hlt := Ht.1; have hls := lP (fA (mO (ident := ident) seed Om Om));refine aU ?_;have f2 := F.size; have f4 := four B8.lt B7.lt B5.lt B4.lt;refine aC func63 rfl (DQ (s := Mf) (c := ce) (d := ct) Je.out.bs Ht (fW seed) vp Om) ?_;rintro e wl ⟨Al, cl, rfl, Hl, hcl, ex⟩;obtain ⟨F,B4,B5,B7,B8,Ja,Jb,Jc,Je⟩ := tU ex F B4 B5 B7 B8 Ja Jb Jc Je;obtain ⟨LT,L0,L1,L2,L4,L5⟩ := iJ ex LT L0 L1 L2 L4 L5;have Jl := Hl.fb.kk f4;refine aU ?_;intro VC D cg;have ex := aE.one cg;clear cg;obtain ⟨F,B4,B5,B8,Ja,Jb,Jc,Je,LT⟩ := ma ex F B4 B5 B8 Ja Jb Jc Je LT;obtain ⟨L0,L1,L2,L4,L5,Jl⟩ := nQ ex L0 L1 L2 L4 L5 Jl;replace B7 := D; clear D;replace B7 := B7.congr (cs' := dH ⟨Ab, 32, cb⟩ i0 i1 i2 (tC ident seed).src i4 i5 ⟨Al, 64, cl⟩) rfl;refine aU ?_;refine cu [(2, [Vv]), (3, [Vw])] Kr 5 rfl ?_; intro VG ex VH;obtain ⟨F,B4,B5,B7,B8,Ja,Jb,Jc,Je⟩ := tU ex F B4 B5 B7 B8 Ja Jb Jc Je;obtain ⟨LT,L0,L1,L2,L4,L5,Jl⟩ := iO ex LT L0 L1 L2 L4 L5 Jl;refine gQ [(0, []), (1, [2])] ?_;refine aU ?_;refine cJ 2 Kr ?_; refine dt rfl (aP (o := 0) rfl rfl Kr B4 Nb (aO rfl)) rfl ?_;rintro _ VD ⟨rfl, D, cg⟩;have ex := aE.one cg;clear cg;refine ⟨ex, ?_⟩;obtain ⟨F,B5,Ja,Jb,Jc,Je,LT,L0,L1⟩ := ma ex F B5 Ja Jb Jc Je LT L0 L1;obtain ⟨L2,L4,L5,Jl⟩ := dF ex L2 L4 L5 Jl;replace B4 := D; clear D;refine cJ 3 Kr ?_; refine dt rfl (aP (o := 0) rfl rfl Kr B5 Nb (aO rfl)) rfl ?_;rintro _ VE ⟨rfl, D, cg⟩;have ex := aE.one cg;clear cg;refine ⟨ex, ?_⟩;obtain ⟨F,B4,Ja,Jb,Jc,Je,LT,L0,L1⟩ := ma ex F B4 Ja Jb Jc Je LT L0 L1;obtain ⟨L2,L4,L5,Jl⟩ := dF ex L2 L4 L5 Jl;replace B5 := D; clear D;refine gQ [(4, [])] ?_;refine aU ?_;refine cN Kr ?_;replace B4 := B4.congr (cs' := dH ⟨Ab, 32, cb⟩ i0 i1 i2 (tC ident seed).src i4 i5 ⟨Al, 64, cl⟩) rfl;replace B5 := B5.congr (cs' := fx ⟨Aa, 32, ca⟩ ⟨Ac, 32, cc⟩ ⟨Ae, 32, ce⟩) rfl;refine aU ?_;refine hret rfl rfl rfl B4 rfl B5 rfl ?_;exact ⟨_, _, rfl, oZ (Q := Fb _ _) (i := ⟨Ab, 32, cb⟩) (g := ⟨Al, 64, cl⟩) (show 1 < 256 by omega) (Jb.out.mono a2) (L0.out.mono Vu) (L1.out.mono Vu) (L2.out.mono Vu) (L4.out.mono Vu) (L5.out.mono Vu) (Jl.out.mono f2), (fun A' n' c' e b o ha => by have e' : some (Value.slice i2.A i2.n i2.c) = some (.slice A' n' c') := e; injection e' with e'; injection e' with e1 _ _; exact LT.out b o (e1.trans ha)), ⟨⟨Aa, 32, ca⟩, ⟨Ac, 32, cc⟩, ⟨Ae, 32, ce⟩, rfl, Ja.out.mono a2, Jc.out.mono b2, Je.out.mono c2⟩, F.aS So⟩
theorem Gc {B : Oa} {d : Nat} (w : World) (HA : Bs w A n ident) (h1 : 1 ≤ n) (h2 : n ≤ 64) (HB : Bs w B 32 seed) :
  Ct 27 #[.slice A n c, .slice B 32 d] w fun e w' => ∃ cs ks, e = .returned (.tuple #[.agg cs, .agg ks, .int .u8 0]) ∧ dx w' cs (RA ident seed) ∧ qE w' ks (lv (wv seed)) (lv (IE seed)) (yg seed) ∧ Ext w w' :=
 (pM w HA h1 h2 HB).mono fun _ _ ⟨cs, ks, a, b, _, c, d⟩ => ⟨cs, ks, a, b.at, c.at, d⟩
end
section
open Go.RowKit Tryz
attribute [local irreducible] Y Ef WL WC WK WQ WM cv
namespace Ae
def Th (a : Nat) : Nat := (2 * a % 256) ^^^ (if a / 128 = 1 then 27 else 0)
def out (a b o : Nat) : Nat := o ^^^ (if b % 2 = 1 then a else 0)
def RN : Nat → Nat → Nat → Nat → Nat
 | 0, _, _, o => o
 | k + 1, a, b, o => RN k (Th a) (b / 2) (out a b o)
def tm (a b : Nat) : Nat := RN 8 a b 0
theorem Py (a : Nat) : Th a < 256 := Nat.xor_lt_two_pow (n := 8) (Nat.mod_lt _ Om) (by split <;> omega)
theorem Rz (ha : a < 256) (ho : o < 256) : out a b o < 256 := Nat.xor_lt_two_pow (n := 8) ho (by split <;> omega)
theorem xV : ∀ (k a o : Nat), RN k a 0 o = o
 | 0, _, _ => rfl
 | k + 1, a, o => by rw [RN, Nat.zero_div, xV k]; unfold out; rw [if_neg Om, Nat.xor_zero]
theorem SM : ∀ x : Fin 256, bits .and .u8 ((x.val : Nat) : Int) 1 = ((x.val % 2 : Nat) : Int) := by decide +kernel
theorem Sh (p : Nat) (c : Prop) [Decidable c] (h : p = if c then 1 else 0) : IntKind.u8.wrap (0 - ((p : Nat) : Int)) = (((if c then 255 else 0 : Nat)) : Int) := by subst h; split <;> decide
theorem JJ : ∀ x : Fin 256, bits .and .u8 ((x.val : Nat) : Int) 255 = ((x.val : Nat) : Int) ∧ bits .and .u8 ((x.val : Nat) : Int) 0 = 0 := by decide +kernel
theorem Sb (a : Nat) (ha : a < 256) (c : Prop) [Decidable c] : bits .and .u8 ((a : Nat) : Int) (((if c then 255 else 0 : Nat)) : Int) = (((if c then a else 0 : Nat)) : Int) := by
 split
 ·exact (JJ ⟨a, ha⟩).1
 exact (JJ ⟨a, ha⟩).2
theorem Tp : ∀ x : Fin 256, IntKind.u8.wrap (((x.val : Nat) : Int) * 2 ^ min (1 : Int).toNat IntKind.u8.bits) = ((2 * x.val % 256 : Nat) : Int) := by decide +kernel
theorem Uk : ∀ x : Fin 256, ((x.val : Nat) : Int) / 2 ^ min (7 : Int).toNat IntKind.u8.bits = ((x.val / 128 : Nat) : Int) := by decide +kernel
theorem UC : ∀ x : Fin 256, ((x.val : Nat) : Int) / 2 ^ min (1 : Int).toNat IntKind.u8.bits = ((x.val / 2 : Nat) : Int) := by decide +kernel
end Ae
open Ae
theorem j7 (A B : Nat) (hA : A < 256) (hB : B < 256) (w : World) :
  Ct 252 #[.int .u8 (A : Int), .int .u8 (B : Int)] w fun e w' => e = .returned (.int .u8 ((tm A B : Nat) : Int)) ∧ tm A B < 256 ∧ Ext w w' := by
 refine ai 25 func252 rfl rfl rfl rfl ?_;intro _ hret;refine aU ?_;refine aD (fun n' L wr => ∃ (j a b o : Nat), L = [(0, .int .u8 (a : Int)), (1, .int .u8 (b : Int)), (5, .int .u8 (o : Int))] ∧ n' = 1 + j ∧ (a < 256 ∧ b < 256 ∧ o < 256 ∧ b < 2 ^ j ∧ j ≤ 8 ∧ RN j a b o = tm A B ∧ Ext w wr)) _ _ ⟨8, A, B, 0, rfl, rfl, hA, hB, Om, hB, Nat.le_refl _, rfl, Ext.refl _⟩ Ls ?_;rintro _ n' L wr ⟨j, a, b, o, rfl, rfl, ha, hb, ho, hj, _, ht, F⟩ Vq;refine aU ?_;refine ak rfl (fun Vr => ?_) (fun Vr => ?_)
 ·obtain ⟨i, rfl⟩ : ∃ i, j = i + 1 := ⟨j - 1, by rcases j with _ | j; simp at hj; omega; omega⟩
  rw [RN] at ht;rw [Nat.pow_succ] at hj;refine au 9 ?_;refine al (cV rfl rfl (SM ⟨b, hb⟩)) ?_;refine al (Ju rfl (Sh (b % 2) (b % 2 = 1) (by split <;> omega))) ?_;refine al (cV rfl rfl (Sb a ha (b % 2 = 1))) ?_;refine al (bP rfl rfl (show _ = ((out a b o : Nat) : Int) from (bH ho (by split <;> omega)).2.2)) ?_;refine au 5 ?_;refine al (gd rfl rfl Om (Tp ⟨a, ha⟩)) ?_;refine au 1 ?_;refine al (cB rfl rfl Om (Uk ⟨a, ha⟩)) ?_;refine al (Ju rfl (Sh (a / 128) (a / 128 = 1) (by split <;> omega))) ?_;refine al (cV rfl rfl (Sb 27 Om (a / 128 = 1))) ?_;refine al (bP rfl rfl (show _ = ((Th a : Nat) : Int) from (bH (Nat.mod_lt _ Om) (by split <;> omega)).2.2)) ?_;refine au 6 ?_;refine al (cB rfl rfl Om (UC ⟨b, hb⟩)) ?_;refine au 2 ?_;refine ae ?_;refine Vq _ _ ⟨i, Th a, b / 2, out a b o, rfl, rfl, Py a, Om, Rz ha ho, Om, Om, ht, F⟩ Om Ls
 refine aU ?_;refine hret rfl ?_;obtain rfl : b = 0 := by omega
 rw [xV] at ht;exact ⟨by rw [← ht], by rw [← ht]; exact ho, F⟩
namespace Ae
def Tk (x k : Nat) : Nat := x * 2 ^ k % 256 ||| x / 2 ^ (8 - k)
theorem Ld {x : Nat} (hx : x < 256) : Tk x k < 256 := Nat.or_lt_two_pow (n := 8) (Nat.mod_lt _ Om) (Nat.lt_of_le_of_lt (Nat.div_le_self _ _) hx)
theorem MX : ∀ x : Fin 256, ∀ k : Fin 5, (bits .or .u8 (IntKind.u8.wrap (((x.val : Nat) : Int) * 2 ^ min ((k.val : Nat) : Int).toNat IntKind.u8.bits)) (((x.val : Nat) : Int) / 2 ^ min (8 - ((k.val : Nat) : Int)).toNat IntKind.u8.bits)) = ((Tk x.val k.val : Nat) : Int) := by decide +kernel
theorem Ua : ∀ k : Fin 5, bits .and .u64 ((k.val : Nat) : Int) 7 = ((k.val : Nat) : Int) := by decide +kernel
def bp : Nat → Nat
 | 0 => 1
 | i + 1 => tm (bp i) 3
def bq : Nat → Nat
 | 0 => 1
 | i + 1 => tm (bq i) 246
def bx (q : Nat) : Nat → Nat
 | 0 => q
 | n + 1 => bx q n ^^^ Tk q (n + 1)
def NO : Nat → List UInt8
 | 0 => (List.replicate 256 0).set 0 99
 | i + 1 => (NO i).set (bp (i + 1)) (UInt8.ofNat (bx (bq (i + 1)) 4 ^^^ 99))
theorem kA : ∀ i, (NO i).length = 256
 | 0 => by unfold NO; rw [List.length_set, List.length_replicate]
 | i + 1 => by unfold NO; rw [List.length_set, kA i]
theorem DD {q : Nat} (h : q < 256) : ∀ n, bx q n < 256
 | 0 => h
 | n + 1 => Nat.xor_lt_two_pow (n := 8) (DD h n) (Ld h)
def box : List UInt8 := NO 255
end Ae
theorem I7 (x k : Nat) (hx : x < 256) (hk : k < 5) (w : World) :
  Ct 253 #[.int .u8 (x : Int), .int .i64 (k : Int)] w fun e w' => e = .returned (.int .u8 ((Tk x k : Nat) : Int)) ∧ Ext w w' := by
 refine ai 17 func253 rfl rfl rfl rfl ?_;intro _ hret;refine au 9 ?_;refine al (cV rfl rfl (Ua ⟨k, hk⟩)) ?_;refine au 7 ?_;refine al (gd rfl rfl Om rfl) ?_;refine au 2 ?_;refine al (fI rfl rfl (IntWalk.u64_in _ ⟨by omega, by omega⟩)) ?_;refine al (cB rfl rfl Om rfl) ?_;refine al (jN rfl rfl (MX ⟨x, hx⟩ ⟨k, hk⟩)) ?_;refine aU ?_;refine hret rfl ?_;exact ⟨rfl, Ext.refl _⟩
end
section
open Go.RowKit Tryz
attribute [local irreducible] Y Ef WL WC WK WQ WM cv
open Ae
theorem gC {v : Nat} (h : v < 256) : ((UInt8.ofNat v).toNat : Int) = (v : Int) := by rw [UInt8.toNat_ofNat']; omega
theorem Eo (w : World) : Ct 225 #[] w fun e w' => e = .returned (.agg (dd box)) ∧ Ext w w' := by
 have F := aE.refl [] w;refine aK (s := 256) 29 func225 rfl rfl rfl underlying265 rfl Kr rfl ?_;intro _ hret;refine aU ?_;intro _ Vr B0 Vu ex;have VB := ex.size;replace F := F.grow ex Vu;refine aU ?_;intro _ Vq B1 Vs ex;have Vv : Vr < Vq := Nat.lt_of_lt_of_le B0.lt Vs;replace F := F.grow ex Vs;replace B0 := B0.grow ex Vs;replace B1 := B1.congr (cs' := dd (List.replicate 256 0)) Kr;refine au 10 ?_;refine al (bS rfl rfl Tn.u Kr (j := 0) Om Om) ?_;refine ag (aq rfl rfl rfl Kr B1 (by rw [ba, List.length_replicate]; omega)) rfl ?_;rintro _ w3 ⟨rfl, D1, cg⟩;have ex := aE.one cg;clear cg; rw [show (99 : Int) = (((99 : UInt8).toNat : Nat) : Int) from rfl, gE] at D1;obtain ⟨F,B0⟩ := iz ex F B0;refine aU ?_;have B1 : ao w3 Vq 265 (dd (NO 0)) := D1;replace B0 := B0.congr (cs' := dd (List.replicate 256 0)) Kr;refine aD (fun n' L wr => ∃ (i : Nat), L = [(0, .pointer (some ⟨Vr, 0, none⟩)), (1, .pointer (some ⟨Vq, 0, none⟩)), (2, .int .u8 ((bp i : Nat) : Int)), (3, .int .u8 ((bq i : Nat) : Int)), (7, .int .i64 (i : Int))] ∧ n' = 255 - i ∧ (i ≤ 255 ∧ bp i < 256 ∧ bq i < 256 ∧ aE [Vq, Vr] w wr ∧ ao wr Vr 265 (dd (List.replicate 256 0)) ∧ ao wr Vq 265 (dd (NO i)))) _ _ ⟨0, rfl, rfl, Nat.zero_le _, (by decide), (by decide), F, B0, B1⟩ Ls ?_;rintro _ n' L wr ⟨i, rfl, rfl, _, hp, hq, F, B0, B1⟩ Vx;refine aU ?_;refine ak rfl (fun Vy => ?_) (fun Vy => ?_)
 ·refine aU ?_;refine aC func252 rfl (j7 (bp i) 3 hp Om _) ?_;rintro e _ ⟨rfl, Vw, ex⟩;obtain ⟨F,B0,B1⟩ := bF ex F B0 B1;refine aU ?_;refine aC func252 rfl (j7 (bq i) 246 hq Om _) ?_;rintro e _ ⟨rfl, Vt, ex⟩;obtain ⟨F,B0,B1⟩ := bF ex F B0 B1;refine aU ?_;refine aD (fun n' L ws => ∃ (n : Nat), L = [(0, .pointer (some ⟨Vr, 0, none⟩)), (1, .pointer (some ⟨Vq, 0, none⟩)), (2, .int .u8 ((bp (i + 1) : Nat) : Int)), (3, .int .u8 ((bq (i + 1) : Nat) : Int)), (4, .int .u8 ((bx (bq (i + 1)) n : Nat) : Int)), (5, .int .i64 ((n : Int) + 1)), (7, .int .i64 (i : Int))] ∧ n' = 4 - n ∧ (n ≤ 4 ∧ aE [Vq, Vr] w ws ∧ ao ws Vr 265 (dd (List.replicate 256 0)) ∧ ao ws Vq 265 (dd (NO i)))) _ _ ⟨0, rfl, rfl, Nat.zero_le _, F, B0, B1⟩ Ls ?_;rintro _ n' L ws ⟨n, rfl, rfl, _, F, B0, B1⟩ Vz;refine aU ?_;refine ak rfl (fun VA => ?_) (fun VA => ?_)
  ·refine aU ?_;refine aC func253 rfl (I7 (bq (i + 1)) (n + 1) Vt Om _) ?_;rintro e _ ⟨rfl, ex⟩;obtain ⟨F,B0,B1⟩ := bF ex F B0 B1;refine au 1 ?_;refine al (bP rfl rfl ((bH (DD Vt n) (Ld Vt)).2.2)) ?_;refine au 9 ?_;refine ae ?_;refine Vz _ _ ⟨n + 1, rfl, rfl, by omega, F, B0, B1⟩ Om Ls
  obtain rfl : n = 4 := by omega
  have VC : bp (i + 1) < 256 := Vw;have hv : bx (bq (i + 1)) 4 ^^^ 99 < 256 := Nat.xor_lt_two_pow (n := 8) (DD Vt 4) Om;refine au 8 ?_;refine al (bP rfl rfl ((bH (q := 99) (DD Vt 4) (show 99 < 256 by omega)).2.2)) ?_;refine al (bS rfl rfl Tn.u Kr (j := bp (i + 1)) Om Om) ?_;refine ag (aq rfl rfl rfl Kr B1 (by rw [ba, kA]; omega)) rfl ?_;rintro _ _ ⟨rfl, D1, cg⟩;have ex := aE.one cg;clear cg; rw [← gC (v := bx (tm (bq i) 246) 4 ^^^ 99) hv, gE, Nat.zero_add] at D1;obtain ⟨F,B0⟩ := iz ex F B0;refine au 7 ?_;refine ae ?_;refine Vx _ _ ⟨i + 1, rfl, rfl, by omega, Vw, Vt, F, B0, D1⟩ Om Ls
 obtain rfl : i = 255 := by omega
 obtain ⟨T, hT⟩ : ∃ T, T = NO 255 := ⟨_, rfl⟩
 have hTl : T.length = 256 := by rw [hT]; exact kA _
 rw [← hT] at B1;refine au 7 ?_;refine al (aW rfl Tn.u rfl (by rw [ba, hTl]; kernel_rfl) B1) ?_;refine ag (ah rfl rfl (by rw [ba, hTl]; kernel_rfl) B0 (by rw [ba, ba, hTl, List.length_replicate]) (mx _)) rfl ?_;rintro _ _ ⟨rfl, D0, cg⟩;have ex := aE.one cg;clear cg;replace F := F.bk ex;refine aU ?_;refine hret rfl D0 (by rw [ba, hTl]) ?_;rw [hT]; exact ⟨rfl, (F.drop Om).drop Om |>.aS (by simp)⟩
end
section
open Go.RowKit Tryz
attribute [local irreducible] Y Ef WL WC WK WQ WM cv WN WF cZ WJ gI
open Ae
namespace Ae
def cell (l : Lb) (k : Nat) : Nat := (l.getD k 0).toNat
theorem c8 (l : Lb) (k : Nat) : cell l k < 256 := UInt8.toNat_lt _
def Up (m : Lb) (off i all fst : Nat) : Nat := cell m (off + i) ^^^ (all ^^^ tm (cell m (off + i) ^^^ (if i < 3 then cell m (off + (i + 1)) else fst)) 2)
def L7 (l : Lb) (off all fst : Nat) : Nat → List UInt8
 | 0 => l
 | i + 1 => (L7 l off all fst i).set (off + i) (UInt8.ofNat (Up (L7 l off all fst i) off i all fst))
theorem nC (l : Lb) (off all fst : Nat) : ∀ i, (L7 l off all fst i).length = l.length
 | 0 => rfl
 | i + 1 => by rw [L7, List.length_set, nC l off all fst i]
def mix (l : Lb) (off : Nat) : List UInt8 := L7 l off (((cell l (off + 0) ^^^ cell l (off + 1)) ^^^ cell l (off + 2)) ^^^ cell l (off + 3)) (cell l (off + 0)) 4
theorem AA (l : Lb) (off : Nat) : (mix l off).length = l.length := nC _ _ _ _ _
theorem x8 (ha : a < 256) (hb : b < 256) : a ^^^ b < 256 := Nat.xor_lt_two_pow (n := 8) ha hb
end Ae
theorem tv (B : ao w g t (dd l)) (h : k < l.length) : w.cell? ⟨g, k, none⟩ = some (.int .u8 ((Ae.cell l k : Nat) : Int)) := by rw [B.cell]; unfold dd Ae.cell;rw [List.getElem?_toArray, List.getElem?_map, List.getElem?_eq_getElem h, List.getD_eq_getElem?_getD, List.getElem?_eq_getElem h]; rfl
theorem MC {off : Nat} (w : World) (B0 : ao w g t (dd l)) (h : off + 4 ≤ l.length) :
  Ct 227 #[.slice (some ⟨g, off, none⟩) 4 c] w fun e w' => e = .returned (.tuple #[]) ∧ ao w' g t (dd (mix l off)) ∧ aE [g] w w' := by
 have F := aE.refl [g] w;have B := B0
 obtain ⟨all, hall⟩ : ∃ a, a = ((cell l (off + 0) ^^^ cell l (off + 1)) ^^^ cell l (off + 2)) ^^^ cell l (off + 3) := ⟨_, rfl⟩
 have Vq : all < 256 := by rw [hall]; exact x8 (x8 (x8 (c8 _ _) (c8 _ _)) (c8 _ _)) (c8 _ _)
 obtain ⟨fst, hfst⟩ : ∃ a, a = cell l (off + 0) := ⟨_, rfl⟩
 have Vu : fst < 256 := by rw [hfst]; exact c8 _ _
 have hM : mix l off = L7 l off all fst 4 := by rw [hall, hfst]; rfl
 refine gj 51 func227 rfl rfl rfl rfl ?_;intro _ hret;refine aU ?_;refine az Kr 16 rfl ?_; intro Vz ex VA;obtain ⟨F,B⟩ := aZ ex F B;refine zm [0] ?_;refine my 1 rfl (aB rfl rfl Tn.u Kr (j := 0) Om Om) ?_;refine my 2 rfl (af rfl Tn.u rfl (tv B (k := off + 0) Om)) ?_;refine zm [3] ?_;refine my 4 rfl (aB rfl rfl Tn.u Kr (j := 1) Om Om) ?_;refine my 5 rfl (af rfl Tn.u rfl (tv B (k := off + 1) Om)) ?_;refine my 6 rfl (bP rfl rfl ((bH (c8 _ _) (c8 _ _)).2.2)) ?_;refine zm [7] ?_;refine my 8 rfl (aB rfl rfl Tn.u Kr (j := 2) Om Om) ?_;refine my 9 rfl (af rfl Tn.u rfl (tv B (k := off + 2) Om)) ?_;refine my 10 rfl (bP rfl rfl ((bH (x8 (c8 _ _) (c8 _ _)) (c8 _ _)).2.2)) ?_;refine zm [11] ?_;refine my 12 rfl (aB rfl rfl Tn.u Kr (j := 3) Om Om) ?_;refine my 13 rfl (af rfl Tn.u rfl (tv B (k := off + 3) Om)) ?_;refine my 14 rfl (bP rfl rfl ((bH (x8 (x8 (c8 _ _) (c8 _ _)) (c8 _ _)) (c8 _ _)).2.2)) ?_;refine Gh [15] ?_;refine au 8 ?_;refine al (aB rfl rfl Tn.u Kr (j := 0) Om Om) ?_;refine al (af rfl Tn.u rfl (tv B (k := off + 0) Om)) ?_;refine au 9 ?_;rw [← hall, ← hfst];refine aD (fun n' L wr => ∃ (i : Nat), L = [(0, .slice (some ⟨g, off, none⟩) 4 c), (2, .int .u8 ((all : Nat) : Int)), (3, .int .u8 ((fst : Nat) : Int)), (24, .int .i64 (i : Int))] ∧ n' = 4 - i ∧ (i ≤ 4 ∧ aE [g] w wr ∧ ao wr g t (dd (L7 l off all fst i)))) _ _ ⟨0, rfl, rfl, Nat.zero_le _, F, B⟩ Ls ?_;rintro _ n' L wr ⟨i, rfl, rfl, _, F, B⟩ Vt;refine aU ?_;refine ak rfl (fun Vv => ?_) (fun Vv => ?_)
 ·obtain ⟨M, hMM⟩ : ∃ M, M = L7 l off all fst i := ⟨_, rfl⟩
  have hMl : M.length = l.length := by rw [hMM]; exact nC _ _ _ _ _
  rw [← hMM] at B
  obtain ⟨nx, hnx⟩ : ∃ n, n = (if i < 3 then cell M (off + (i + 1)) else fst) := ⟨_, rfl⟩
  have Vs : nx < 256 := by rw [hnx]; split; exact c8 _ _; exact Vu
  refine aU ?_;refine ak rfl (fun Vw => ?_) (fun Vw => ?_)
  ·refine au 4 ?_;refine al (aB rfl rfl Tn.u Kr (j := i + 1) Om Om) ?_;refine al (af rfl Tn.u rfl (show _ = some (.int .u8 ((nx : Nat) : Int)) by rw [hnx, if_pos Om]; exact tv B (k := off + (i + 1)) Om)) ?_;refine aU ?_;refine cu [(15, [g])] Kr 16 rfl ?_; intro Vx ex Vy;obtain ⟨F,B⟩ := aZ ex F B;refine gQ [(0, []), (1, [])] ?_;refine aU ?_;refine jw 2 [] rfl (fun wr (cr : aE ([]) _ wr) => aB rfl rfl Tn.u Kr (j := i) Om Om) ?_;refine jw 3 [] rfl (fun wr (cr : aE ([]) _ wr) => af rfl Tn.u rfl (tv (B.bk cr) (k := off + i) Om)) ?_;refine gQ [(4, []), (5, []), (6, [])] ?_;refine aU ?_;refine jw 7 [] rfl (fun wr (cr : aE ([]) _ wr) => aB rfl rfl Tn.u Kr (j := i) Om Om) ?_;refine jw 8 [] rfl (fun wr (cr : aE ([]) _ wr) => af rfl Tn.u rfl (tv (B.bk cr) (k := off + i) Om)) ?_;refine gQ [(9, [])] ?_;refine aU ?_;refine jw 10 [] rfl (fun wr (cr : aE ([]) _ wr) => bP rfl rfl ((bH (c8 _ _) Vs).2.2)) ?_;refine cJ 11 Kr ?_; refine DR rfl func252 rfl rfl rfl (j7 (cell M (off + i) ^^^ nx) 2 (x8 (c8 _ _) Vs) Om _) rfl ?_;rintro e w8 ⟨rfl, Vr, ex⟩;refine ⟨_, rfl, aE.of ex _, ?_⟩;obtain ⟨F,B⟩ := aZ ex F B;refine jw 12 [] rfl (fun wr (cr : aE ([]) _ wr) => bP rfl rfl ((bH Vq Vr).2.2)) ?_;refine jw 13 [] rfl (fun wr (cr : aE ([]) _ wr) => bP rfl rfl ((bH (c8 _ _) (x8 Vq Vr)).2.2)) ?_;refine jw 14 [] rfl (fun wr (cr : aE ([]) _ wr) => aB rfl rfl Tn.u Kr (j := i) Om Om) ?_;refine cJ 15 Kr ?_; refine dt rfl (aq rfl rfl rfl Kr B (by rw [ba]; omega)) rfl ?_;rintro _ w9 ⟨rfl, D, cg⟩;have ex := aE.one cg;refine ⟨ex, ?_⟩;clear cg; rw [← gC (x8 (c8 _ _) (x8 Vq Vr)), gE] at D;replace F := F.bk ex;refine cN Kr ?_;refine au 7 ?_;refine ae ?_;refine Vt _ _ ⟨i + 1, rfl, rfl, by omega, F, (by rw [L7, ← hMM]; unfold Up; rw [← hnx]; exact D)⟩ Om Ls
  refine au 2 ?_;have hx : fst = nx := by rw [hnx, if_neg Om]
  rw [hx];refine cu [(15, [g])] Kr 16 rfl ?_; intro Vx ex Vy;obtain ⟨F,B⟩ := aZ ex F B;refine gQ [(0, []), (1, [])] ?_;refine aU ?_;refine jw 2 [] rfl (fun wr (cr : aE ([]) _ wr) => aB rfl rfl Tn.u Kr (j := i) Om Om) ?_;refine jw 3 [] rfl (fun wr (cr : aE ([]) _ wr) => af rfl Tn.u rfl (tv (B.bk cr) (k := off + i) Om)) ?_;refine gQ [(4, []), (5, []), (6, [])] ?_;refine aU ?_;refine jw 7 [] rfl (fun wr (cr : aE ([]) _ wr) => aB rfl rfl Tn.u Kr (j := i) Om Om) ?_;refine jw 8 [] rfl (fun wr (cr : aE ([]) _ wr) => af rfl Tn.u rfl (tv (B.bk cr) (k := off + i) Om)) ?_;refine gQ [(9, [])] ?_;refine aU ?_;refine jw 10 [] rfl (fun wr (cr : aE ([]) _ wr) => bP rfl rfl ((bH (c8 _ _) Vs).2.2)) ?_;refine cJ 11 Kr ?_; refine DR rfl func252 rfl rfl rfl (j7 (cell M (off + i) ^^^ nx) 2 (x8 (c8 _ _) Vs) Om _) rfl ?_;rintro e w8 ⟨rfl, Vr, ex⟩;refine ⟨_, rfl, aE.of ex _, ?_⟩;obtain ⟨F,B⟩ := aZ ex F B;refine jw 12 [] rfl (fun wr (cr : aE ([]) _ wr) => bP rfl rfl ((bH Vq Vr).2.2)) ?_;refine jw 13 [] rfl (fun wr (cr : aE ([]) _ wr) => bP rfl rfl ((bH (c8 _ _) (x8 Vq Vr)).2.2)) ?_;refine jw 14 [] rfl (fun wr (cr : aE ([]) _ wr) => aB rfl rfl Tn.u Kr (j := i) Om Om) ?_;refine cJ 15 Kr ?_; refine dt rfl (aq rfl rfl rfl Kr B (by rw [ba]; omega)) rfl ?_;rintro _ w9 ⟨rfl, D, cg⟩;have ex := aE.one cg;refine ⟨ex, ?_⟩;clear cg; rw [← gC (x8 (c8 _ _) (x8 Vq Vr)), gE] at D;replace F := F.bk ex;refine cN Kr ?_;refine au 7 ?_;refine ae ?_;refine Vt _ _ ⟨i + 1, rfl, rfl, by omega, F, (by rw [L7, ← hMM]; unfold Up; rw [← hnx]; exact D)⟩ Om Ls
 refine aU ?_;refine hret (.inr rfl) ?_;obtain rfl : i = 4 := by omega
 rw [← hM] at B;exact ⟨rfl, B, F⟩
namespace Ae
def MK (T : Lb) (t : Lb) (f : Nat) : List UInt8 := [UInt8.ofNat (cell T (cell t 1) ^^^ f), UInt8.ofNat (cell T (cell t 2)), UInt8.ofNat (cell T (cell t 3)), UInt8.ofNat (cell T (cell t 0))]
def EC (T w : Lb) (f : Nat) : List UInt8 := if w.length % 16 = 0 then MK T (w.drop (w.length - 4)) f else w.drop (w.length - 4)
def xk (t w : Lb) : Nat → List UInt8
 | 0 => t
 | j + 1 => (xk t w j).set j (UInt8.ofNat (cell (xk t w j) j ^^^ cell w (w.length - 16 + j)))
def mf (T key : Lb) : Nat → List UInt8 × Nat
 | 0 => (key, 1)
 | i + 1 => ((mf T key i).1 ++ xk (EC T (mf T key i).1 (mf T key i).2) (mf T key i).1 4, if (mf T key i).1.length % 16 = 0 then tm (mf T key i).2 2 else (mf T key i).2)
theorem qd (t w : Lb) : ∀ j, (xk t w j).length = t.length
 | 0 => rfl
 | j + 1 => by rw [xk, List.length_set, qd t w j]
theorem so {T w : Lb} {f : Nat} (h : 4 ≤ w.length) : (EC T w f).length = 4 := by
 unfold EC; split
 ·rfl
 rw [List.length_drop]; omega
theorem nG {T key : Lb} (hk : key.length = 16) : ∀ i, (mf T key i).1.length = 16 + 4 * i
  | 0 => hk
  | i + 1 => by have := nG (T := T) hk i;rw [mf, List.length_append, qd, so Om]; omega
def keys (T key : Lb) : List UInt8 := (mf T key 40).1
theorem zl {T : Lb} (hk : key.length = 16) : (keys T key).length = 176 := nG hk 40
end Ae
theorem lk {xs : Lb} (H : Bs w (some ⟨g, 0, none⟩) n xs) (h : k < n) : w.cell? ⟨g, 0 + k, none⟩ = some (.int .u8 ((Ae.cell xs k : Nat) : Int)) := by
 obtain ⟨b', o', e, _, hc⟩ := H.get h;injection e with e
 injection e with e1 e2 _
 subst e1; subst e2;rw [hc]; unfold Ae.cell;rw [List.getD_eq_getElem?_getD, List.getElem?_eq_getElem (by rw [H.1]; exact h)];try rfl
 try simp [bv]
theorem yk (B : ao w g t (dd l)) (h : k < l.length) : w.cell? ⟨g, 0 + k, none⟩ = some (.int .u8 ((Ae.cell l k : Nat) : Int)) := by rw [Nat.zero_add]; exact tv B h
theorem Ib (T t : Lb) (f : Nat) (hf : f < 256) : (#[.int .u8 ((cell T (cell t 1) ^^^ f : Nat) : Int), .int .u8 ((cell T (cell t 2) : Nat) : Int), .int .u8 ((cell T (cell t 3) : Nat) : Int), .int .u8 ((cell T (cell t 0) : Nat) : Int)] : Array Value) = dd (MK T t f) := by simp only [dd, MK, List.map_cons, List.map_nil, bv, gC (x8 (c8 _ _) hf), gC (c8 _ _)]
theorem OM (m : Nat) : ((m : Nat) : Int).tmod 16 = ((m % 16 : Nat) : Int) := by rw [Int.tmod_eq_emod_of_nonneg Om]; omega
theorem yB {T : Lb} (w : World) (HA : Bs w A 16 key) (hT : T.length = 256) :
  Ct 226 #[.slice A 16 c, .agg (dd T)] w fun e w' => ∃ A' c', e = .returned (.slice A' 176 c') ∧ Row w' w.heap.size 5 A' 176 c' ((keys T key).map bv) ∧ Ext w w' := by
 have E := Ext.refl w;refine ai 75 func226 rfl rfl rfl rfl ?_;intro _ hret;refine aU ?_;intro Vs Vr B3 _ ex;obtain ⟨HA,E⟩ := aZ ex HA E;have Vv := HA; have E0 := E; have Vw := B3;refine aU ?_;refine ag (aF (z := .int .u8 0) Tn.u Kr rfl rfl rfl rfl rfl) rfl ?_;rintro _ w1 ⟨g1, rfl, D1, Vx, ex⟩;replace HA := HA.ext ex;have X1 := ex; have R1 : Row w1 Vs.heap.size 5 (some ⟨g1, 0, none⟩) 0 0 [] := Row.new D1 Vx rfl (by unfold maxLen; omega);refine aU ?_;refine ag (aX rfl rfl bT R1 HA.2 (by rw [List.length_map, HA.1]) aJ Om Om X1.size) rfl ?_;rintro _ _ ⟨A2, c2, rfl, R2, be, gr, hl⟩;have X2 := X1.trans be; rw [List.nil_append] at R2;refine aU ?_;refine aD (fun n' L wr => ∃ (i m c5 : Nat) (A5 : Oa), L = [(3, .pointer (some ⟨Vr, 0, none⟩)), (5, .slice A5 m c5), (6, .int .u8 (((mf T key i).2 : Nat) : Int))] ∧ n' = 40 - i ∧ (i ≤ 40 ∧ m = 16 + 4 * i ∧ (mf T key i).2 < 256 ∧ Ext Vs wr ∧ Row wr Vs.heap.size 5 A5 m c5 ((mf T key i).1.map bv))) _ _ ⟨0, 0 + 16, c2, A2, rfl, rfl, Nat.zero_le _, rfl, (by show 1 < 256; omega), X2, R2⟩ Ls ?_;rintro _ n' L wr ⟨i, m, c5, A5, rfl, rfl, _, _, hf, X, R⟩ Vy;refine aU ?_;refine ak rfl (fun Vz => ?_) (fun Vz => ?_)
 ·have hWl := nG (T := T) Vv.1 i
  obtain ⟨W, hW⟩ : ∃ W, W = (mf T key i).1 := ⟨_, rfl⟩
  rw [← hW] at R hWl;have hmW : m = W.length := by omega
  have BT : ao wr Vr 265 (dd T) := Vw.ext X
  obtain ⟨ts, hts⟩ : ∃ t, t = W.drop (m - 4) := ⟨_, rfl⟩
  refine aU ?_;refine ag (aF (z := .int .u8 0) Tn.u Kr rfl rfl rfl rfl rfl) rfl ?_;rintro _ w4 ⟨g4, rfl, D4, VA, ex⟩;have Y4 := ex; have R4 : Row w4 wr.heap.size 5 (some ⟨g4, 0, none⟩) 0 0 [] := Row.new D4 VA rfl (by unfold maxLen; omega);refine au 4 ?_;refine al (pH (s := 1) rfl rfl Tn.u Kr (j := m - 4) Om Om) ?_;have HC := (R.ext Y4).bs.lE (j := m - 4) Om R.cap;rw [← hts] at HC;refine ag (aX rfl rfl bT R4 HC.2 (by rw [List.length_map, HC.1]) aJ Om Om Y4.size) rfl ?_;rintro _ _ ⟨_, c6, rfl, R6, be, gr, hl⟩;have Y5 := Y4.trans be; rw [List.nil_append] at R6; replace R6 := R6.congr (n' := 0 + (m - (m - 4))) rfl rfl; obtain ⟨gt, _, rfl, _⟩ := R6.get (i := 0) Om; have H6 := R6.bs; have Vq := BT.ext Y5;refine au 8 ?_;refine al (ck rfl rfl Om (show _ = ((m % 16 : Nat) : Int) from OM m)) ?_;refine aU ?_;refine eD (fun L Vt => ∃ (gq nq cq fq : Nat), L = [(3, .pointer (some ⟨Vr, 0, none⟩)), (5, .slice A5 m c5), (6, .int .u8 ((fq : Nat) : Int)), (7, .slice (some ⟨gq, 0, none⟩) nq cq)] ∧ (nq = 4 ∧ fq = (mf T key (i + 1)).2 ∧ fq < 256 ∧ Ext wr Vt ∧ Row Vt wr.heap.size 5 (some ⟨gq, 0, none⟩) nq cq ((EC T W (mf T key i).2).map bv))) ?_ ?_
  ·skip;refine ak rfl (fun VB => ?_) (fun VB => ?_)
   ·refine aU ?_;refine az Kr 24 rfl ?_; intro VR ex VS;obtain ⟨Y5,H6,Vq⟩ := bF ex Y5 H6 Vq;refine zm [0] ?_;refine my 1 rfl (aB rfl rfl Tn.u Kr (j := 1) Om Om) ?_;refine my 2 rfl (af rfl Tn.u rfl (lk H6 (k := 1) Om)) ?_;refine my 3 rfl (bS rfl rfl Tn.u Kr (j := cell ts 1) Om (by have := c8 ts 1; omega)) ?_;refine my 4 rfl (af rfl Tn.u rfl (yk Vq (k := cell ts 1) (by rw [hT]; exact c8 _ _))) ?_;refine zm [5] ?_;refine my 6 rfl (bP rfl rfl ((bH (c8 _ _) hf).2.2)) ?_;refine zm [7] ?_;refine my 8 rfl (aB rfl rfl Tn.u Kr (j := 2) Om Om) ?_;refine my 9 rfl (af rfl Tn.u rfl (lk H6 (k := 2) Om)) ?_;refine my 10 rfl (bS rfl rfl Tn.u Kr (j := cell ts 2) Om (by have := c8 ts 2; omega)) ?_;refine my 11 rfl (af rfl Tn.u rfl (yk Vq (k := cell ts 2) (by rw [hT]; exact c8 _ _))) ?_;refine zm [12] ?_;refine my 13 rfl (aB rfl rfl Tn.u Kr (j := 3) Om Om) ?_;refine my 14 rfl (af rfl Tn.u rfl (lk H6 (k := 3) Om)) ?_;refine my 15 rfl (bS rfl rfl Tn.u Kr (j := cell ts 3) Om (by have := c8 ts 3; omega)) ?_;refine my 16 rfl (af rfl Tn.u rfl (yk Vq (k := cell ts 3) (by rw [hT]; exact c8 _ _))) ?_;refine zm [17] ?_;refine my 18 rfl (aB rfl rfl Tn.u Kr (j := 0) Om Om) ?_;refine my 19 rfl (af rfl Tn.u rfl (lk H6 (k := 0) Om)) ?_;refine my 20 rfl (bS rfl rfl Tn.u Kr (j := cell ts 0) Om (by have := c8 ts 0; omega)) ?_;refine my 21 rfl (af rfl Tn.u rfl (yk Vq (k := cell ts 0) (by rw [hT]; exact c8 _ _))) ?_;have VT := Y5.size;refine aL 22 Kr ?_; refine aQ rfl (aF (z := .int .u8 0) Tn.u Kr rfl rfl rfl rfl rfl) rfl ?_;rintro _ _ ⟨g6, rfl, D6, _, ex⟩;refine ⟨.inr ex, ?_⟩;replace Y5 := Y5.ext ex;have Vu := D6.congr (Ib T ts _ hf);refine zm [23] ?_;refine aC func252 rfl (j7 (mf T key i).2 2 hf Om _) ?_;rintro e w7 ⟨rfl, VC, ex⟩;obtain ⟨Y5,Vu⟩ := aZ ex Y5 Vu;refine au 3 ?_;have hn : EC T W (mf T key i).2 = MK T ts (mf T key i).2 := by unfold EC; rw [if_pos Om, ← hmW, ← hts]
    have he : tm (mf T key i).2 2 = (mf T key (i + 1)).2 := by rw [mf]; exact (if_pos (by rw [← hW]; omega)).symm
    have RT : Row w7 wr.heap.size 5 (some ⟨g6, 0, none⟩) 4 4 ((EC T W (mf T key i).2).map bv) := by rw [hn];have := Row.new (base := wr.heap.size) Vu Om (n := 4) rfl (by unfold maxLen; omega);simpa [dd] using this
    exact bd _ ⟨g6, 4, 4, tm (mf T key i).2 2, rfl, rfl, he, VC, Y5, RT⟩ Ls
   refine aU ?_;have hn : EC T W (mf T key i).2 = ts := by unfold EC; rw [if_neg Om, ← hmW, ← hts]
   have he : (mf T key i).2 = (mf T key (i + 1)).2 := by rw [mf]; exact (if_neg (by rw [← hW]; omega)).symm
   exact bd _ ⟨gt, 0 + (m - (m - 4)), c6, (mf T key i).2, rfl, Om, he, hf, Y5, (by rw [hn]; exact R6)⟩ Ls
  rintro L Vt ⟨gq, nq, cq, fq, rfl, _, hfq, VD, Y, RT⟩;subst hfq;refine aU ?_;refine aD (fun n' L ws => ∃ (j : Nat), L = [(3, .pointer (some ⟨Vr, 0, none⟩)), (5, .slice A5 m c5), (6, .int .u8 (((mf T key (i + 1)).2 : Nat) : Int)), (7, .slice (some ⟨gq, 0, none⟩) nq cq), (52, .int .i64 (nq : Int)), (53, .int .i64 (j : Int)), (51, .slice (some ⟨gq, 0, none⟩) nq cq)] ∧ n' = 4 - j ∧ (j ≤ 4 ∧ Ext wr ws ∧ Row ws wr.heap.size 5 (some ⟨gq, 0, none⟩) nq cq ((xk (EC T W (mf T key i).2) W j).map bv))) _ _ ⟨0, rfl, rfl, Nat.zero_le _, Y, RT⟩ Ls ?_;rintro _ n' L ws ⟨j, rfl, rfl, _, Z, RJ⟩ VE;refine aU ?_;refine ak rfl (fun VF => ?_) (fun VF => ?_)
  ·refine aU ?_
   obtain ⟨V, hV⟩ : ∃ V, V = xk (EC T W (mf T key i).2) W j := ⟨_, rfl⟩
   rw [← hV] at RJ;have HJ := RJ.bs;have HW := (R.ext Z).bs;obtain ⟨gw, _, rfl, _⟩ := R.get (i := 0) Om;refine az Kr 15 rfl ?_; intro VG ex VH;obtain ⟨Z,RJ,HJ,HW⟩ := bU ex Z RJ HJ HW;refine zm [0, 1] ?_;refine dg 2 rfl (fun _ => aB rfl rfl Tn.u Kr (j := j) Om Om) ?_;refine my 3 rfl (af rfl Tn.u rfl (lk HJ (k := j) Om)) ?_;refine zm [4, 5, 6, 7, 8, 9] ?_;refine dg 10 rfl (fun _ => aB rfl rfl Tn.u Kr (j := m - 16 + j) Om Om) ?_;refine my 11 rfl (af rfl Tn.u rfl (lk HW (k := m - 16 + j) Om)) ?_;refine dg 12 rfl (fun _ => bP rfl rfl ((bH (c8 _ _) (c8 _ _)).2.2)) ?_;refine dg 13 rfl (fun _ => aB rfl rfl Tn.u Kr (j := j) Om Om) ?_;refine aL 14 Kr ?_; refine aQ rfl (mP rfl rfl rfl Kr RJ Om) rfl ?_;rintro _ VI ⟨rfl, VJ, cg⟩;refine ⟨.inl rfl, ?_⟩
   have VK := Z.aA cg (RJ.lt).1; have VL : Row VI wr.heap.size 5 (some ⟨gq, 0, none⟩) nq cq ((V.set j (UInt8.ofNat (cell V j ^^^ cell W (m - 16 + j)))).map bv) := (by rw [List.map_set, bv, gC (x8 (c8 _ _) (c8 _ _))]; exact VJ)
   refine au 8 ?_;refine ae ?_;refine VE _ _ ⟨j + 1, rfl, rfl, by omega, VK, (by rw [xk, ← hV, ← hmW]; exact VL)⟩ Om Ls
  obtain rfl : j = 4 := by omega
  have e1 : (mf T key (i + 1)).1 = W ++ xk (EC T W (mf T key i).2) W 4 := by rw [hW]; rfl
  have hxl : (xk (EC T W (mf T key i).2) W 4).length = 4 := by rw [qd, so Om]
  refine aU ?_;refine ag (aX rfl rfl bT (R.ext Z) RJ.at (by rw [List.length_map, hxl]; omega) aJ Om Om (X.ext Z).size) rfl ?_;rintro _ _ ⟨VM, VN, rfl, VO, be, gr, hl⟩;have VP := (X.ext Z).trans be; have VQ := VO.cat;refine au 3 ?_;refine ae ?_;refine Vy _ _ ⟨i + 1, m + nq, VN, VM, rfl, rfl, by omega, by omega, VD, VP, (by rw [e1]; exact VQ)⟩ Om Ls
 refine aU ?_;refine hret rfl ?_;obtain rfl : i = 40 := by omega
 obtain rfl : m = 176 := by omega
 exact ⟨A5, c5, rfl, R.lower E0.size, E0.ext X⟩
end
section
open Go.RowKit Tryz
section
variable {L : List (Nat × Value)} {x y : Operand}
theorem yA {d : Nat} {xs cs : List Value} (hx : ev L x = some (.slice (some ⟨g, 0, none⟩) n c)) (hy : ev L y = some (.slice A n d)) (hu : P.underlying dT = some (.slice e)) (hs : (P.info? e).map (·.size) = some 1)
  (hown : Row w base e (some ⟨g, 0, none⟩) n c xs) (hr : At w A cs) (hn : cs.length = n) (h1 : ∀ v ∈ cs, v.oneCell' = true) :
  Ef P L w (.call { callee := .builtin .copy, args := #[x, y], argTypes := #[dT, sT] }) ty fun u w' => u = .int .i64 (cs.length : Int) ∧ Row w' base e (some ⟨g, 0, none⟩) n c cs ∧ lF w g w' := by
 obtain ⟨hl, h⟩ := hown
 rcases h with ⟨h, _⟩ | ⟨g', cap, cur, hv, hb, hg, hc, hm, hz, ht⟩
 ·cases h
 injection hv with Vq h2 h3
 injection Vq with Vq
 injection Vq with e1 _ _
 subst e1; subst h3;refine (gY (cur := cur) (cs := cs) hx hy hu hs hg hr (by rw [hn]; exact (Nat.min_self n).symm) Om h1).mono fun u w' ⟨Vr, hB, hC⟩ => ⟨Vr, ⟨by omega, .inr ⟨g, c, _, rfl, hb, hB, hc, hm, ?_, ?_⟩⟩, hC⟩
 ·simp; omega
 simp [hn]
theorem PW {z : Operand} {c' j : Nat} {k k2 : IntKind} {a b : Int} {e : TypeId} (hx : ev L x = some (.slice (some ⟨g, 0, none⟩) n c')) (hy : ev L y = some (.int k a)) (hz : ev L z = some (.int k2 b)) (hu : P.underlying t = some (.slice e)) (hs : (P.info? e).map (·.size) = some 1) (ha : a = (j : Int)) (hb : b = ((j + 4 : Nat) : Int)) (hj : j + 4 ≤ c') :
  Y P L w (.slice t x (some y) (some z) none) ty (.slice (some ⟨g, j, none⟩) 4 (c' - j)) := by
 have h := wZ (w := w) (ty := ty) (s := 1) hx hy hz hu hs ha hb Om Om
 have e1 : lE (some ⟨g, 0, none⟩) c' j 1 = some ⟨g, j, none⟩ := by unfold lE; rw [if_neg Om]; simp [Addr.add];intro h; exact h.symm
 rw [e1, show j + 4 - j = 4 by omega] at h;exact h
end
attribute [local irreducible] Y Ef WL WC WK WQ WM cv WN WF cZ WJ gI
open Ae
namespace Ae
def Ke (s w : Lb) (n : Nat) : Nat → List UInt8
 | 0 => s
 | i + 1 => (Ke s w n i).set i (UInt8.ofNat (cell (Ke s w n i) i ^^^ cell w (16 * n + i)))
def Pz (T s : Lb) : Nat → List UInt8
 | 0 => List.replicate 16 0
 | i + 1 => (Pz T s i).set i (UInt8.ofNat (cell T (cell s ((i + i % 4 * 4) % 16))))
def SF (x : Lb) : Nat → List UInt8
 | 0 => x
 | i + 1 => mix (SF x i) (4 * i)
def Mx (T w b : Lb) : Nat → List UInt8
 | 0 => b
 | n + 1 => SF (Pz T (Ke (Mx T w b n) w n 16) 16) (if n + 1 < 10 then 4 else 0)
def enc (key b : Lb) : List UInt8 := Ke (Mx box (keys box key) b 10) (keys box key) 10 16
theorem Cu (s w : Lb) (n : Nat) : ∀ i, (Ke s w n i).length = s.length
 | 0 => rfl
 | i + 1 => by rw [Ke, List.length_set, Cu s w n i]
theorem kD (T s : Lb) : ∀ i, (Pz T s i).length = 16
 | 0 => by rw [Pz, List.length_replicate]
 | i + 1 => by rw [Pz, List.length_set, kD T s i]
theorem iS (x : Lb) : ∀ i, (SF x i).length = x.length
 | 0 => rfl
 | i + 1 => by rw [SF, AA, iS x i]
theorem Qm {T w b : Lb} (h : b.length = 16) : ∀ n, (Mx T w b n).length = 16
 | 0 => h
 | n + 1 => by rw [Mx, iS, kD]
end Ae
theorem TG (m : Nat) : ((m : Nat) : Int).tmod 4 = ((m % 4 : Nat) : Int) := by rw [Int.tmod_eq_emod_of_nonneg Om]; omega
theorem TE (m : Nat) (h : z = (m : Int)) : z.tmod 16 = ((m % 16 : Nat) : Int) := by subst h; exact OM m
theorem tS {B : Oa} {d : Nat} {jn : Lb} (w : World) (HA : Bs w A 16 key) (HB : Bs w B 16 jn) :
  Ct 174 #[.slice A 16 c, .slice B 16 d] w fun e w' => ∃ A' c', e = .returned (.tuple #[.slice A' 16 c', .bool true]) ∧ Row w' w.heap.size 5 A' 16 c' ((enc key jn).map bv) ∧ Ext w w' := by
 have E := Ext.refl w;have hkl := HA.1
 obtain ⟨T, hT⟩ : ∃ T, T = box := ⟨_, rfl⟩
 have hTl : T.length = 256 := by rw [hT]; exact kA _
 have hEnc : enc key jn = Ke (Mx T (keys T key) jn 10) (keys T key) 10 16 := by rw [hT]; rfl
 have Vv := zl (T := T) hkl
 obtain ⟨W, hW⟩ : ∃ W, W = keys T key := ⟨_, rfl⟩
 rw [← hW] at hEnc Vv;refine bL 91 func174 rfl rfl rfl rfl ?_;intro _ hret;refine au 6 ?_;refine fY 0 (fun n' L wr => ∃ (n g6 g7 c7 g8 c8 : Nat) (w4 : World), L = [(6, .pointer (some ⟨g6, 0, none⟩)), (7, .slice (some ⟨g7, 0, none⟩) 176 c7), (8, .slice (some ⟨g8, 0, none⟩) 16 c8), (9, .int .i64 (n : Int))] ∧ n' = 10 - n ∧ (n ≤ 10 ∧ Ext w w4 ∧ ao w4 g6 265 (dd T) ∧ Bs w4 (some ⟨g7, 0, none⟩) 176 W ∧ Ext w4 wr ∧ Row wr w4.heap.size 5 (some ⟨g8, 0, none⟩) 16 c8 ((Mx T W jn n).map bv))) rfl ?_ ?_
 ·rintro G n' L wr ⟨n, g6, g7, c7, g8, c8, w4, rfl, rfl, _, E4, Vq, Vr, X, R⟩ Vt
  obtain ⟨S, hS⟩ : ∃ S, S = Mx T W jn n := ⟨_, rfl⟩
  rw [← hS] at R;refine au 9 ?_;refine aD (fun n' L ws => ∃ (i : Nat), L = [(6, .pointer (some ⟨g6, 0, none⟩)), (7, .slice (some ⟨g7, 0, none⟩) 176 c7), (8, .slice (some ⟨g8, 0, none⟩) 16 c8), (9, .int .i64 (n : Int)), (30, .int .i64 16), (31, .int .i64 (i : Int))] ∧ n' = 16 - i ∧ (i ≤ 16 ∧ Ext w4 ws ∧ Row ws w4.heap.size 5 (some ⟨g8, 0, none⟩) 16 c8 ((Ke S W n i).map bv))) _ _ ⟨0, rfl, rfl, Nat.zero_le _, X, R⟩ Ls ?_;rintro _ n' L ws ⟨i, rfl, rfl, hi, X, R⟩ VB;refine au 2 ?_;refine al (eX rfl rfl) ?_;refine au 3 ?_;refine ak rfl (fun VC => ?_) (fun VC => ?_)
  ·refine au 10 ?_
   obtain ⟨V, hV⟩ : ∃ V, V = Ke S W n i := ⟨_, rfl⟩
   rw [← hV] at R;have HV := R.bs;have HWs := Vr.wk X;refine az Kr 14 rfl ?_; intro VD ex VE;obtain ⟨X,R,HV,HWs⟩ := bU ex X R HV HWs;refine dg 0 rfl (fun _ => aY rfl) ?_;refine dg 1 rfl (fun _ => aY rfl) ?_;refine dg 2 rfl (fun _ => aB rfl rfl Tn.u Kr (j := i) Om Om) ?_;refine my 3 rfl (af rfl Tn.u rfl (lk HV (k := i) Om)) ?_;refine dg 4 rfl (fun _ => aY rfl) ?_;refine dg 5 rfl (fun _ => aY rfl) ?_;refine dg 6 rfl (fun _ => cL rfl rfl (bj Om Om)) ?_;refine dg 7 rfl (fun _ => aY rfl) ?_;refine dg 8 rfl (fun _ => aN rfl rfl (bj Om Om)) ?_;refine dg 9 rfl (fun _ => aB rfl rfl Tn.u Kr (j := 16 * n + i) Om Om) ?_;refine my 10 rfl (af rfl Tn.u rfl (lk HWs (k := 16 * n + i) Om)) ?_;refine dg 11 rfl (fun _ => bP rfl rfl ((bH (Ae.c8 _ _) (Ae.c8 _ _)).2.2)) ?_;refine dg 12 rfl (fun _ => aB rfl rfl Tn.u Kr (j := i) Om Om) ?_;refine aL 13 Kr ?_; refine aQ rfl (mP rfl rfl rfl Kr R Om) rfl ?_;rintro _ VF ⟨rfl, VG, cg⟩;refine ⟨.inl rfl, ?_⟩
   have VH := X.aA cg (R.lt).1; have VI : Row VF w4.heap.size 5 (some ⟨g8, 0, none⟩) 16 c8 ((V.set i (UInt8.ofNat (cell V i ^^^ cell W (16 * n + i)))).map bv) := (by rw [List.map_set, bv, gC (x8 (Ae.c8 _ _) (Ae.c8 _ _))]; exact VG)
   refine oq Kr ?_;refine au 4 ?_;refine al (aN rfl rfl (bj Om Om)) ?_;refine au 2 ?_;refine ae ?_;refine VB _ _ ⟨i + 1, rfl, rfl, by omega, VH, (by rw [Ke, ← hV]; exact VI)⟩ Om Ls
  obtain rfl : i = 16 := by omega
  obtain ⟨V, hV⟩ : ∃ V, V = Ke S W n 16 := ⟨_, rfl⟩
  rw [← hV] at R;refine au 9 ?_;refine al (cO rfl rfl) ?_;refine au 2 ?_;refine ak rfl (fun VJ => ?_) (fun VJ => ?_)
  ·refine au 9 ?_;refine bW ?_;refine hret rfl rfl ?_;obtain rfl : n = 10 := by omega
   exact ⟨_, c8, rfl, by rw [hEnc, ← hS, ← hV]; exact R.lower E4.size, E4.ext X⟩
  refine au 5 ?_;refine al (aN rfl rfl (bj Om Om)) ?_;have X0 := X; have R0 := R;refine au 5 ?_;refine ag (dD (n := 16) (z := .int .u8 0) (bytes := 1) rfl rfl Tn.u Kr rfl rfl rfl rfl Om Om) rfl ?_;rintro _ _ ⟨Vu, rfl, VK, Vs, ex⟩;have VL := ex; have VM := VK.congr (cs' := dd (List.replicate 16 0)) Kr;refine au 12 ?_;refine aD (fun n' L wq => ∃ (i : Nat), L = [(6, .pointer (some ⟨g6, 0, none⟩)), (7, .slice (some ⟨g7, 0, none⟩) 176 c7), (8, .slice (some ⟨g8, 0, none⟩) 16 c8), (9, .int .i64 ((n : Int) + 1)), (11, .slice (some ⟨Vu, 0, none⟩) 16 16), (55, .int .i64 16), (56, .int .i64 (i : Int))] ∧ n' = 16 - i ∧ (i ≤ 16 ∧ Ext ws wq ∧ ao wq Vu 5 (dd (Pz T V i)))) _ _ ⟨0, rfl, rfl, Nat.zero_le _, VL, VM⟩ Ls ?_;rintro _ n' L wq ⟨i, rfl, rfl, hi, Y, B⟩ VN;refine au 2 ?_;refine al (eX rfl rfl) ?_;refine au 3 ?_;refine ak rfl (fun VO => ?_) (fun VO => ?_)
  ·have HV := R0.bs.wk Y;have TQ := (Vq.ext X0).ext Y;have hxl := kD T V i;refine au 16 ?_;refine al (ck rfl rfl Om (show _ = ((i % 4 : Nat) : Int) from TG i)) ?_;refine al (cL rfl rfl (bj Om Om)) ?_;refine al (aN rfl rfl (bj Om Om)) ?_;refine al (ck rfl rfl Om (show _ = (((i + i % 4 * 4) % 16 : Nat) : Int) from TE (i + i % 4 * 4) Om)) ?_;refine al (aB rfl rfl Tn.u Kr (j := (i + i % 4 * 4) % 16) Om Om) ?_;refine al (af rfl Tn.u rfl (lk HV (k := (i + i % 4 * 4) % 16) Om)) ?_;refine al (bS rfl rfl Tn.u Kr (j := cell V ((i + i % 4 * 4) % 16)) Om (by have := Ae.c8 V ((i + i % 4 * 4) % 16); omega)) ?_;refine al (af rfl Tn.u rfl (yk TQ (k := cell V ((i + i % 4 * 4) % 16)) (by rw [hTl]; exact Ae.c8 _ _))) ?_;refine al (aB rfl rfl Tn.u Kr (j := i) Om Om) ?_;refine ag (aq rfl rfl rfl Kr B (by rw [ba, hxl]; omega)) rfl ?_;rintro _ _ ⟨rfl, VP, cg⟩;have VQ := Y.aA cg Vs; have VA := VP; rw [← gC (Ae.c8 T (cell V ((i + i % 4 * 4) % 16))), gE, Nat.zero_add] at VA;refine au 4 ?_;refine al (aN rfl rfl (bj Om Om)) ?_;refine au 2 ?_;refine ae ?_;refine VN _ _ ⟨i + 1, rfl, rfl, by omega, VQ, VA⟩ Om Ls
  obtain rfl : i = 16 := by omega
  obtain ⟨x, hx⟩ : ∃ x, x = Pz T V 16 := ⟨_, rfl⟩
  have hxl : x.length = 16 := by rw [hx]; exact kD _ _ _
  rw [← hx] at B;refine au 12 ?_;refine aD (fun n' L wu => ∃ (k : Nat), L = [(6, .pointer (some ⟨g6, 0, none⟩)), (7, .slice (some ⟨g7, 0, none⟩) 176 c7), (8, .slice (some ⟨g8, 0, none⟩) 16 c8), (9, .int .i64 ((n : Int) + 1)), (11, .slice (some ⟨Vu, 0, none⟩) 16 16), (13, .int .i64 ((4 * k : Nat) : Int))] ∧ n' = 4 - k ∧ (k ≤ 4 ∧ (n + 1 < 10 ∨ k = 0) ∧ Ext ws wu ∧ ao wu Vu 5 (dd (SF x k)))) _ _ ⟨0, rfl, rfl, Nat.zero_le _, .inr rfl, Y, B⟩ Ls ?_;rintro _ n' L wu ⟨k, rfl, rfl, _, _, Y, B⟩ VR;refine au 4 ?_;refine bf (eX rfl rfl) rfl (fun a1 => ?_) (fun a1 => ?_)
  ·refine au 2 ?_;refine aG 76 rfl rfl (eX rfl rfl) rfl (fun a2 => ?_) (fun a2 => ?_)
   ·refine au 3 ?_;refine bX rfl rfl ?_;have hml := iS x k;refine au 8 ?_;refine al (aN rfl rfl (bj Om Om)) ?_;refine al (PW (j := 4 * k) rfl rfl rfl Tn.u Kr rfl Om Om) ?_;refine aC func227 rfl (MC _ B Om) ?_;rintro e _ ⟨rfl, VS, ch⟩;have VT := Y.N0 ch (by simp; exact Vs);refine au 6 ?_;refine al (aN rfl rfl (bj Om Om)) ?_;refine au 2 ?_;refine ae ?_;refine VR _ _ ⟨k + 1, rfl, rfl, by omega, Om, VT, VS⟩ Om Ls
   refine au 3 ?_;refine bg rfl rfl ?_;have hml := iS x k;have Vw : k = if n + 1 < 10 then 4 else 0 := by split <;> omega
   refine au 9 ?_;refine ag (yA rfl rfl Tn.u Kr (R0.ext Y) ((bh B Om).2) (by rw [List.length_map]; omega) aJ) rfl ?_;rintro _ VU ⟨rfl, Vx, cg⟩;have Vy := (X0.ext Y).aA cg (R0.lt).1;refine au 3 ?_;refine cz ?_;refine Vt _ _ ⟨n + 1, g6, g7, c7, g8, c8, w4, rfl, rfl, by omega, E4, Vq, Vr, Vy, (by rw [Mx, ← hS, ← hV, ← hx, ← Vw]; exact Vx)⟩ Om Ls
  refine au 6 ?_;refine bg rfl rfl ?_;have hml := iS x k;have Vw : k = if n + 1 < 10 then 4 else 0 := by split <;> omega
  refine au 9 ?_;refine ag (yA rfl rfl Tn.u Kr (R0.ext Y) ((bh B Om).2) (by rw [List.length_map]; omega) aJ) rfl ?_;rintro _ VU ⟨rfl, Vx, cg⟩;have Vy := (X0.ext Y).aA cg (R0.lt).1;refine au 3 ?_;refine cz ?_;refine Vt _ _ ⟨n + 1, g6, g7, c7, g8, c8, w4, rfl, rfl, by omega, E4, Vq, Vr, Vy, (by rw [Mx, ← hS, ← hV, ← hx, ← Vw]; exact Vx)⟩ Om Ls
 intro G Vt;have VV := HA; have VW := HB;refine au 5 ?_;refine al (Y.as (gO rfl rfl) (congrArg Value.bool (decide_eq_false Om))) ?_;refine au 3 ?_;refine pt 17 (Y.as (gO rfl rfl) (congrArg Value.bool (decide_eq_false Om))) ?_;refine au 3 ?_;refine bg rfl rfl ?_;refine au 4 ?_;refine aC func225 rfl (Eo _) ?_;rintro e _ ⟨rfl, ex⟩;refine au 1 ?_;obtain ⟨HA,HB,E⟩ := bF ex HA HB E;rw [← hT]; have VY := E.size;refine ag (dJ (Z := (List.replicate 256 (.int .u8 0)).toArray) Kr) rfl ?_;rintro _ _ ⟨g6, rfl, D6, _, ex⟩;obtain ⟨HA,HB,E⟩ := bF ex HA HB E;refine ag (ah rfl rfl (by rw [ba, hTl]; kernel_rfl) D6 (by rw [ba, hTl, List.size_toArray, List.length_replicate]) (mx _)) rfl ?_;rintro _ _ ⟨rfl, T6, cg⟩;replace E := E.aA cg Om; replace HA := VV.wk E; replace HB := VW.wk E;refine au 5 ?_;refine al (aW rfl Tn.u rfl (by rw [ba, hTl]; kernel_rfl) T6) ?_;refine aC func226 rfl (yB _ HA hTl) ?_;rintro e w4 ⟨_, c7, rfl, R7, ex⟩;refine au 1 ?_;obtain ⟨HB,E,T6⟩ := bF ex HB E T6;rw [← hW] at R7; obtain ⟨g7, _, rfl, _⟩ := R7.get (i := 0) Om; have Vr := R7.bs; have Vq := T6; have E4 := E;refine au 5 ?_;refine ag (aF (z := .int .u8 0) Tn.u Kr rfl rfl rfl rfl rfl) rfl ?_;rintro _ w5 ⟨g5, rfl, D5, VX, ex⟩;replace HB := HB.ext ex;have R5 : Row w5 w4.heap.size 5 (some ⟨g5, 0, none⟩) 0 0 [] := Row.new D5 VX rfl (by unfold maxLen; omega); have X5 : Ext w4 w5 := ex;refine au 1 ?_;refine ag (aX rfl rfl bT R5 HB.2 (by rw [List.length_map, HB.1]) aJ Om Om X5.size) rfl ?_;rintro _ _ ⟨_, c8, rfl, R8, be, _, _⟩;have X6 := X5.trans be; rw [List.nil_append] at R8; obtain ⟨g8, _, rfl, _⟩ := R8.get (i := 0) Om;refine au 8 ?_;refine er ?_; intro VZ Vz;refine iq ?_;refine ae (Vz ?_);exact Vt _ _ ⟨0, g6, g7, c7, g8, c8, w4, rfl, rfl, Nat.zero_le _, E4, Vq, Vr, X6, R8⟩ Ls
end
section
open Go.RowKit Tryz
attribute [local irreducible] Y Ef WL WC WK WQ WM cv WN WF cZ WJ gI
open Ae
namespace Gm
def pv (a b : Nat) : Array Value := #[.int .u64 (a : Int), .int .u64 (b : Int)]
def pf (xs : Lb) : Nat → Nat
 | 0 => 0
 | i + 1 => if i < 8 then (pf xs i * 256 % 18446744073709551616 ||| cell xs i) else pf xs i
def ps (xs : Lb) : Nat → Nat
 | 0 => 0
 | i + 1 => if i < 8 then ps xs i else (ps xs i * 256 % 18446744073709551616 ||| cell xs i)
theorem AM (ha : a < 18446744073709551616) (hb : b < 18446744073709551616) : a ||| b < 18446744073709551616 := Nat.or_lt_two_pow (n := 64) ha hb
theorem NT (ha : a < 18446744073709551616) (hb : b < 18446744073709551616) : a ^^^ b < 18446744073709551616 := Nat.xor_lt_two_pow (n := 64) ha hb
theorem sL (xs : Lb) : ∀ i, pf xs i < 18446744073709551616
  | 0 => by rw [pf]; omega
  | i + 1 => by
    have := sL xs i;rw [pf]; split
    · exact AM (Nat.mod_lt _ Om) (by have := c8 xs i; omega)
    exact this
theorem tL (xs : Lb) : ∀ i, ps xs i < 18446744073709551616
  | 0 => by rw [ps]; omega
  | i + 1 => by
    have := tL xs i;rw [ps]; split
    · exact this
    exact AM (Nat.mod_lt _ Om) (by have := c8 xs i; omega)
theorem Oq (a : Nat) : IntKind.u64.wrap ((a : Int) * 2 ^ min (8 : Int).toNat IntKind.u64.bits) = ((a * 256 % 18446744073709551616 : Nat) : Int) := by show (((a : Int) * 2 ^ 8) % 18446744073709551616 : Int) = _;omega
end Gm
open Gm
theorem JV {xs : Lb} (H : Bs w (some ⟨g, o, none⟩) n xs) (h : k < n) : w.cell? ⟨g, o + k, none⟩ = some (.int .u8 ((Ae.cell xs k : Nat) : Int)) := by
 obtain ⟨b', o', e, _, hc⟩ := H.get h;injection e with e
 injection e with e1 e2 _
 subst e1; subst e2;rw [hc]; unfold Ae.cell;rw [List.getD_eq_getElem?_getD, List.getElem?_eq_getElem (by rw [H.1]; exact h)];try rfl
 try simp [bv]
theorem ke (a b c d : Nat) (ha : a < 18446744073709551616) (hb : b < 18446744073709551616) (hc : c < 18446744073709551616) (hd : d < 18446744073709551616) (w : World) :
  Ct 177 #[.agg (pv a b), .agg (pv c d)] w fun e w' => e = .returned (.agg (pv (a ^^^ c) (b ^^^ d))) ∧ Ext w w' := by
 have F := aE.refl [] w;refine aK (s := 2) 16 func177 rfl rfl rfl underlying220 rfl Kr rfl ?_;intro _ hret;refine aU ?_;intro _ _ B2 _ ex;have Vr := B2.lt;replace F := F.ext ex;refine aU ?_;intro _ _ B3 _ ex;have Vs := B3.lt;obtain ⟨F,B2⟩ := aZ ex F B2;refine aU ?_;intro _ _ B4 Vq ex;replace F := F.grow ex Vq;replace B2 := B2.grow ex Vq;replace B3 := B3.grow ex Vq;refine au 8 ?_;refine al (bP rfl rfl ((cD ha hc).2.2)) ?_;refine au 4 ?_;refine al (bP rfl rfl ((cD hb hd).2.2)) ?_;refine al (ar rfl (cells := pv (a ^^^ c) (b ^^^ d)) Kr) ?_;refine aU ?_;intro _ D cg;have ex := aE.one cg;clear cg;replace F := F.bk ex;replace B4 := D; clear D;replace B4 := B4.congr (cs' := pv (a ^^^ c) (b ^^^ d)) rfl;refine aU ?_;refine hret rfl B4 rfl ?_;exact ⟨rfl, F.drop Om |>.aS (by simp)⟩
theorem kW {xs : Lb} (w : World) (HA : Bs w A 16 xs) :
  Ct 175 #[.slice A 16 c] w fun e w' => e = .returned (.agg (pv (pf xs 16) (ps xs 16))) ∧ Ext w w' := by
 have F := aE.refl [] w;have KA : Kp w.heap.size [] (fun w => Bs w A 16 xs) w := Kp.bs HA (by simp);obtain ⟨ga, oa, rfl, _, _⟩ := HA.get (k := 0) Om;refine aK (s := 2) 31 func175 rfl rfl rfl underlying220 rfl Kr rfl ?_;intro _ hret;refine aU ?_;intro _ Vr B2 Vs ex;have Vy := ex.size;replace F := F.grow ex Vs;replace KA := KA.grow ex Vs;refine aU ?_;intro _ Vt B3 Vq ex;have Vu : Vr < Vt := Nat.lt_of_lt_of_le B2.lt Vq;replace F := F.grow ex Vq;replace KA := KA.grow ex Vq;replace B2 := B2.grow ex Vq;refine aU ?_;replace B2 := B2.congr (cs' := pv 0 0) rfl;replace B3 := B3.congr (cs' := pv 0 0) rfl;refine aD (fun n' L wr => ∃ (i : Nat), L = [(2, .pointer (some ⟨Vr, 0, none⟩)), (3, .pointer (some ⟨Vt, 0, none⟩)), (6, .slice (some ⟨ga, oa, none⟩) 16 c), (7, .int .i64 16), (8, .int .i64 (i : Int))] ∧ n' = 16 - i ∧ (i ≤ 16 ∧ aE [Vt, Vr] w wr ∧ Kp w.heap.size [Vt, Vr] (fun w => Bs w (some ⟨ga, oa, none⟩) 16 xs) wr ∧ ao wr Vr 220 (pv 0 0) ∧ ao wr Vt 220 (pv (pf xs i) (ps xs i)))) _ _ ⟨0, rfl, rfl, Nat.zero_le _, F, KA, B2, B3⟩ Ls ?_;rintro _ n' L wr ⟨i, rfl, rfl, _, F, KA, B2, B3⟩ Vv;refine aU ?_;refine ak rfl (fun Vw => ?_) (fun Vw => ?_)
 ·refine au 7 ?_;refine al (aB rfl rfl Tn.u Kr (j := i) Om Om) ?_;refine al (af rfl Tn.u rfl (show _ = some (.int .u8 ((cell xs i : Nat) : Int)) from JV KA.out (k := i) Om)) ?_;refine aU ?_;refine ak rfl (fun Vx => ?_) (fun Vx => ?_)
  ·refine au 3 ?_;refine al (gd rfl rfl Om (Oq _)) ?_;refine au 1 ?_;refine al (bo rfl Tn.u Tn.u (IntWalk.u64_in _ ⟨by omega, by have := c8 xs i; omega⟩)) ?_;refine al (jN rfl rfl ((cD (Nat.mod_lt _ Om) (by have := c8 xs i; omega)).2.1)) ?_;refine aU ?_;intro _ D cg;have ex := aE.one cg;clear cg;obtain ⟨F,KA,B2⟩ := sh ex F KA B2;replace B3 := D; clear D;replace B3 := B3.congr (cs' := pv (pf xs (i + 1)) (ps xs (i + 1))) (by rw [pf, ps, if_pos Om, if_pos Om]; rfl);refine au 7 ?_;refine ae ?_;refine Vv _ _ ⟨i + 1, rfl, rfl, by omega, F, KA, B2, B3⟩ Om Ls
  refine au 3 ?_;refine al (gd rfl rfl Om (Oq _)) ?_;refine au 1 ?_;refine al (bo rfl Tn.u Tn.u (IntWalk.u64_in _ ⟨by omega, by have := c8 xs i; omega⟩)) ?_;refine al (jN rfl rfl ((cD (Nat.mod_lt _ Om) (by have := c8 xs i; omega)).2.1)) ?_;refine aU ?_;intro _ D cg;have ex := aE.one cg;clear cg;obtain ⟨F,KA,B2⟩ := sh ex F KA B2;replace B3 := D; clear D;replace B3 := B3.congr (cs' := pv (pf xs (i + 1)) (ps xs (i + 1))) (by rw [pf, ps, if_neg Om, if_neg Om]; rfl);refine au 7 ?_;refine ae ?_;refine Vv _ _ ⟨i + 1, rfl, rfl, by omega, F, KA, B2, B3⟩ Om Ls
 obtain rfl : i = 16 := by omega
 refine aU ?_;intro _ D cg;have ex := aE.one cg;clear cg;replace F := F.bk ex;replace B2 := D; clear D;replace B2 := B2.congr (cs' := pv (pf xs 16) (ps xs 16)) rfl;refine aU ?_;refine hret rfl B2 rfl ?_;exact ⟨rfl, (F.drop Om).drop Om |>.aS (by simp)⟩
end
open Go.RowKit Tryz
attribute [local irreducible] Y Ef WL WC WK WQ WM cv WN WF cZ WJ gI
open Ae Gm
namespace Gm
def bit (a b n : Nat) : Nat := if n < 64 then a / 2 ^ (63 - n) % 2 else b / 2 ^ (127 - n) % 2
def qs (c d : Nat) : Nat → Nat × Nat
 | 0 => (c, d)
 | n + 1 => ((qs c d n).1 / 2 ^^^ ((qs c d n).2 % 2 * 225 * 72057594037927936 % 18446744073709551616), (qs c d n).2 / 2 ||| ((qs c d n).1 * 9223372036854775808 % 18446744073709551616))
def os (a b c d : Nat) : Nat → Nat × Nat
 | 0 => (0, 0)
 | n + 1 => if bit a b n = 1 then ((os a b c d n).1 ^^^ (qs c d n).1, (os a b c d n).2 ^^^ (qs c d n).2) else os a b c d n
def mul (a b c d : Nat) : Nat × Nat := os a b c d 128
theorem GX {c d : Nat} (hc : c < 18446744073709551616) (hd : d < 18446744073709551616) : ∀ n, (qs c d n).1 < 18446744073709551616 ∧ (qs c d n).2 < 18446744073709551616
  | 0 => ⟨hc, hd⟩
  | n + 1 => by obtain ⟨h1, h2⟩ := GX hc hd n;rw [qs];exact ⟨NT Om (Nat.mod_lt _ Om), AM Om (Nat.mod_lt _ Om)⟩
theorem Iz {a b c d : Nat} (hc : c < 18446744073709551616) (hd : d < 18446744073709551616) : ∀ n, (os a b c d n).1 < 18446744073709551616 ∧ (os a b c d n).2 < 18446744073709551616
  | 0 => by rw [os]; exact ⟨by show 0 < _; omega, by show 0 < _; omega⟩
  | n + 1 => by
    obtain ⟨h1, h2⟩ := GX hc hd n;obtain ⟨h3, h4⟩ := Iz (a := a) (b := b) hc hd n;rw [os]; split
    · exact ⟨NT h3 h1, NT h4 h2⟩
    exact ⟨h3, h4⟩
theorem Nn (a k : Nat) (hz : z = (k : Int)) (hk : k ≤ 63) : ((a : Nat) : Int) / 2 ^ min z.toNat IntKind.u64.bits = ((a / 2 ^ k : Nat) : Int) := by subst hz;rw [Int.toNat_natCast, show IntKind.u64.bits = 64 from rfl, Nat.min_eq_left Om];simp
theorem vt (x : Nat) (hx : x < 18446744073709551616) : bits .and .u64 ((x : Nat) : Int) 1 = ((x % 2 : Nat) : Int) := by have := (cD (p := x) (q := 1) hx Om).1;rw [Nat.and_one_is_mod] at this; exact this
theorem wC (a : Nat) : IntKind.u64.wrap ((a : Int) * 2 ^ min (63 : Int).toNat IntKind.u64.bits) = ((a * 9223372036854775808 % 18446744073709551616 : Nat) : Int) := by show (((a : Int) * 2 ^ 63) % 18446744073709551616 : Int) = _;omega
theorem xa (a : Nat) : IntKind.u64.wrap ((a : Int) * 2 ^ min (56 : Int).toNat IntKind.u64.bits) = ((a * 72057594037927936 % 18446744073709551616 : Nat) : Int) := by show (((a : Int) * 2 ^ 56) % 18446744073709551616 : Int) = _;omega
theorem qN (a : Nat) : ((a : Nat) : Int) / 2 ^ min (1 : Int).toNat IntKind.u64.bits = ((a / 2 : Nat) : Int) := by show ((a : Int) / 2 ^ 1 : Int) = _;omega
end Gm
theorem nN (a b c d : Nat) (ha : a < 18446744073709551616) (hb : b < 18446744073709551616) (hc : c < 18446744073709551616) (hd : d < 18446744073709551616) (w : World) :
  Ct 178 #[.agg (pv a b), .agg (pv c d)] w fun e w' => e = .returned (.agg (pv (Gm.mul a b c d).1 (Gm.mul a b c d).2)) ∧ Ext w w' := by
 have F := aE.refl [] w;refine aK (s := 2) 61 func178 rfl rfl rfl underlying220 rfl Kr rfl ?_;intro _ hret;refine au 2 ?_;refine ag (nA rfl rfl) rfl ?_;rintro _ _ ⟨VD, rfl, B2, _, ex⟩;have VM := B2.lt; have VN := ex.size;replace F := F.ext ex;refine ag (nA rfl rfl) rfl ?_;rintro _ _ ⟨Vy, rfl, B3, VB, ex⟩;replace F := F.grow ex VB;replace B2 := B2.grow ex VB;refine ag (dJ (Z := #[.int .u64 0, .int .u64 0]) Kr) rfl ?_;rintro _ _ ⟨Vw, rfl, B4, Vv, ex⟩;have VH : Vy < Vw := Nat.lt_of_lt_of_le B3.lt Vv;replace F := F.grow ex Vv;replace B2 := B2.grow ex Vv;replace B3 := B3.grow ex Vv;refine au 2 ?_;refine fY 0 (fun n' L wr => ∃ (n Vs : Nat), L = [(2, .pointer (some ⟨VD, 0, none⟩)), (3, .pointer (some ⟨Vy, 0, none⟩)), (4, .pointer (some ⟨Vw, 0, none⟩)), (5, .pointer (some ⟨Vs, 0, none⟩)), (6, .int .i64 (n : Int))] ∧ n' = 127 - n ∧ (n ≤ 127 ∧ VD < Vy ∧ Vy < Vw ∧ Vw < Vs ∧ w.heap.size ≤ VD ∧ aE [Vs, Vw, Vy] w wr ∧ ao wr VD 220 (pv a b) ∧ ao wr Vy 220 (pv (qs c d n).1 (qs c d n).2) ∧ ao wr Vw 220 (pv 0 0) ∧ ao wr Vs 220 (pv (os a b c d n).1 (os a b c d n).2))) rfl ?_ ?_
 ·rintro G n' L wr ⟨n, Vs, rfl, rfl, _, VE, n34, n45, VF, F, B2, B3, B4, B5⟩ Vz;obtain ⟨VI, VA⟩ := GX hc hd n;obtain ⟨VJ, VK⟩ := Iz (a := a) (b := b) hc hd n;refine au 4 ?_;refine bf (eX rfl rfl) rfl (fun a1 => ?_) (fun a1 => ?_)
  ·refine au 1 ?_;refine pt 10 (fP 0 1 0 0 Tn.u) ?_;refine pt 10 (af rfl Tn.u rfl (B2.get (i := 0) rfl)) ?_;refine au 1 ?_;refine pt 10 (fI rfl rfl (bj Om Om)) ?_;refine pt 10 (cB rfl rfl Om (Nn a (63 - n) Om Om)) ?_;refine pt 10 (cV rfl rfl (vt _ (Nat.lt_of_le_of_lt (Nat.div_le_self _ _) ha))) ?_;refine aG 10 rfl rfl (cO rfl rfl) rfl (fun b1 => ?_) (fun b1 => ?_)
   ·refine au 5 ?_;refine bZ 22 rfl rfl rfl ?_;refine bZ 22 rfl rfl rfl ?_;refine bZ 22 rfl rfl rfl ?_;refine bZ 22 rfl rfl rfl ?_;refine bZ 22 rfl rfl rfl ?_;refine bZ 22 rfl rfl rfl ?_;refine bZ 22 rfl rfl rfl ?_;refine au 4 ?_;refine bX rfl rfl ?_;refine au 1 ?_;refine al (aW rfl Tn.u rfl Kr B5) ?_;refine al (aW rfl Tn.u rfl Kr B3) ?_;refine aC func177 rfl (ke _ _ _ _ VJ VK VI VA _) ?_;rintro e w4 ⟨rfl, ex⟩;obtain ⟨F,B2,B3,B4,B5⟩ := eQ ex F B2 B3 B4 B5;refine au 1 ?_;refine ag (aP (o := 0) rfl rfl Kr B5 Nb (aO rfl)) rfl ?_;rintro _ VC ⟨rfl, D, cg⟩;have ex := aE.one cg;clear cg;obtain ⟨F,B2,B3,B4⟩ := dF ex F B2 B3 B4;replace B5 := D; clear D;replace B5 := B5.congr (cs' := pv ((os a b c d n).1 ^^^ (qs c d n).1) ((os a b c d n).2 ^^^ (qs c d n).2)) rfl;have hbit : bit a b n = 1 := by unfold bit; rw [if_pos Om]; omega
    replace B5 := B5.congr (cs' := pv (os a b c d (n + 1)).1 (os a b c d (n + 1)).2) (by rw [os, if_pos hbit]);refine au 4 ?_;refine al (fP 1 1 0 1 Tn.u) ?_;refine al (af rfl Tn.u rfl (B3.get (i := 1) rfl)) ?_;refine al (cV rfl rfl (vt _ VA)) ?_;refine au 5 ?_;refine al (fP 0 1 0 0 Tn.u) ?_;refine al (af rfl Tn.u rfl (B3.get (i := 0) rfl)) ?_;refine al (cB rfl rfl Om (qN _)) ?_;refine al (fP 1 1 0 1 Tn.u) ?_;refine al (af rfl Tn.u rfl (B3.get (i := 1) rfl)) ?_;refine al (cB rfl rfl Om (qN _)) ?_;refine al (fP 0 1 0 0 Tn.u) ?_;refine al (af rfl Tn.u rfl (B3.get (i := 0) rfl)) ?_;refine al (gd rfl rfl Om (wC _)) ?_;refine al (jN rfl rfl ((cD Om (Nat.mod_lt _ Om)).2.1)) ?_;refine al (ar rfl (cells := pv ((qs c d n).1 / 2) ((qs c d n).2 / 2 ||| ((qs c d n).1 * 9223372036854775808 % 18446744073709551616))) Kr) ?_;refine ag (aP (o := 0) rfl rfl Kr B3 Nb (aO rfl)) rfl ?_;rintro _ Vq ⟨rfl, D, cg⟩;have ex := aE.one cg;clear cg;obtain ⟨F,B2,B4,B5⟩ := dF ex F B2 B4 B5;replace B3 := D; clear D;replace B3 := B3.congr (cs' := pv ((qs c d n).1 / 2) ((qs c d n).2 / 2 ||| ((qs c d n).1 * 9223372036854775808 % 18446744073709551616))) rfl;refine au 4 ?_;refine al (fP 0 1 0 0 Tn.u) ?_;refine al (af rfl Tn.u rfl (B3.get (i := 0) rfl)) ?_;refine au 1 ?_;refine al (cL rfl rfl (show _ = (((qs c d n).2 % 2 * 225 : Nat) : Int) from IntWalk.u64_in _ ⟨by omega, by omega⟩)) ?_;refine al (gd rfl rfl Om (xa _)) ?_;refine al (bP rfl rfl ((cD Om (Nat.mod_lt _ Om)).2.2)) ?_;refine al (fP 0 1 0 0 Tn.u) ?_;refine ag (aq (i := 0) rfl rfl rfl Kr B3 Nb) rfl ?_;rintro _ Vt ⟨rfl, D, cg⟩;have ex := aE.one cg;clear cg;obtain ⟨F,B2,B4,B5⟩ := dF ex F B2 B4 B5;replace B3 := D; clear D;replace B3 := B3.congr (cs' := pv (qs c d (n + 1)).1 (qs c d (n + 1)).2) rfl;refine au 6 ?_;refine al (aN rfl rfl (bj Om Om)) ?_;refine au 6 ?_;refine al (eX rfl rfl) ?_;refine au 2 ?_;refine ak rfl (fun Vx => ?_) (fun Vx => ?_)
    ·refine au 2 ?_;refine cz ?_;refine Vz _ _ ⟨n + 1, Vs, rfl, rfl, by omega, VE, n34, n45, VF, F, B2, B3, B4, B5⟩ Om Ls
    obtain rfl : n = 127 := by omega
    refine au 4 ?_;refine al (aW rfl Tn.u rfl Kr B5) ?_;refine ag (aP (o := 0) rfl rfl Kr B4 Nb (aO rfl)) rfl ?_;rintro _ Vr ⟨rfl, D, cg⟩;have ex := aE.one cg;clear cg;replace F := F.bk ex;replace B4 := D; clear D;replace B4 := B4.congr (cs' := pv (os a b c d 128).1 (os a b c d 128).2) rfl;refine au 3 ?_;refine bW ?_;refine hret rfl B4 rfl ?_;exact ⟨rfl, ((F.drop Om).drop Om).drop Om |>.aS (by simp)⟩
   refine au 3 ?_;refine pt 19 (Y.as (vy rfl rfl) (congrArg Value.bool (decide_eq_false Om))) ?_;refine au 12 ?_;refine bg rfl rfl ?_;have hbit : ¬ bit a b n = 1 := by unfold bit; rw [if_pos Om]; omega
   replace B5 := B5.congr (cs' := pv (os a b c d (n + 1)).1 (os a b c d (n + 1)).2) (by rw [os, if_neg hbit]);refine au 4 ?_;refine al (fP 1 1 0 1 Tn.u) ?_;refine al (af rfl Tn.u rfl (B3.get (i := 1) rfl)) ?_;refine al (cV rfl rfl (vt _ VA)) ?_;refine au 5 ?_;refine al (fP 0 1 0 0 Tn.u) ?_;refine al (af rfl Tn.u rfl (B3.get (i := 0) rfl)) ?_;refine al (cB rfl rfl Om (qN _)) ?_;refine al (fP 1 1 0 1 Tn.u) ?_;refine al (af rfl Tn.u rfl (B3.get (i := 1) rfl)) ?_;refine al (cB rfl rfl Om (qN _)) ?_;refine al (fP 0 1 0 0 Tn.u) ?_;refine al (af rfl Tn.u rfl (B3.get (i := 0) rfl)) ?_;refine al (gd rfl rfl Om (wC _)) ?_;refine al (jN rfl rfl ((cD Om (Nat.mod_lt _ Om)).2.1)) ?_;refine al (ar rfl (cells := pv ((qs c d n).1 / 2) ((qs c d n).2 / 2 ||| ((qs c d n).1 * 9223372036854775808 % 18446744073709551616))) Kr) ?_;refine ag (aP (o := 0) rfl rfl Kr B3 Nb (aO rfl)) rfl ?_;rintro _ Vq ⟨rfl, D, cg⟩;have ex := aE.one cg;clear cg;obtain ⟨F,B2,B4,B5⟩ := dF ex F B2 B4 B5;replace B3 := D; clear D;replace B3 := B3.congr (cs' := pv ((qs c d n).1 / 2) ((qs c d n).2 / 2 ||| ((qs c d n).1 * 9223372036854775808 % 18446744073709551616))) rfl;refine au 4 ?_;refine al (fP 0 1 0 0 Tn.u) ?_;refine al (af rfl Tn.u rfl (B3.get (i := 0) rfl)) ?_;refine au 1 ?_;refine al (cL rfl rfl (show _ = (((qs c d n).2 % 2 * 225 : Nat) : Int) from IntWalk.u64_in _ ⟨by omega, by omega⟩)) ?_;refine al (gd rfl rfl Om (xa _)) ?_;refine al (bP rfl rfl ((cD Om (Nat.mod_lt _ Om)).2.2)) ?_;refine al (fP 0 1 0 0 Tn.u) ?_;refine ag (aq (i := 0) rfl rfl rfl Kr B3 Nb) rfl ?_;rintro _ Vt ⟨rfl, D, cg⟩;have ex := aE.one cg;clear cg;obtain ⟨F,B2,B4,B5⟩ := dF ex F B2 B4 B5;replace B3 := D; clear D;replace B3 := B3.congr (cs' := pv (qs c d (n + 1)).1 (qs c d (n + 1)).2) rfl;refine au 6 ?_;refine al (aN rfl rfl (bj Om Om)) ?_;refine au 6 ?_;refine al (eX rfl rfl) ?_;refine au 2 ?_;refine ak rfl (fun Vx => ?_) (fun Vx => ?_)
   ·refine au 2 ?_;refine cz ?_;refine Vz _ _ ⟨n + 1, Vs, rfl, rfl, by omega, VE, n34, n45, VF, F, B2, B3, B4, B5⟩ Om Ls
   obtain rfl : n = 127 := by omega
   refine au 4 ?_;refine al (aW rfl Tn.u rfl Kr B5) ?_;refine ag (aP (o := 0) rfl rfl Kr B4 Nb (aO rfl)) rfl ?_;rintro _ Vr ⟨rfl, D, cg⟩;have ex := aE.one cg;clear cg;replace F := F.bk ex;replace B4 := D; clear D;replace B4 := B4.congr (cs' := pv (os a b c d 128).1 (os a b c d 128).2) rfl;refine au 3 ?_;refine bW ?_;refine hret rfl B4 rfl ?_;exact ⟨rfl, ((F.drop Om).drop Om).drop Om |>.aS (by simp)⟩
  refine au 11 ?_;refine pt 19 (Y.as (vy rfl rfl) (congrArg Value.bool (decide_eq_true Om))) ?_;refine au 1 ?_;refine pt 22 (fP 1 1 0 1 Tn.u) ?_;refine pt 22 (af rfl Tn.u rfl (B2.get (i := 1) rfl)) ?_;refine au 1 ?_;refine pt 22 (fI rfl rfl (bj Om Om)) ?_;refine pt 22 (cB rfl rfl Om (Nn b (127 - n) Om Om)) ?_;refine pt 22 (cV rfl rfl (vt _ (Nat.lt_of_le_of_lt (Nat.div_le_self _ _) hb))) ?_;refine aG 22 rfl rfl (cO rfl rfl) rfl (fun b2 => ?_) (fun b2 => ?_)
  ·refine au 4 ?_;refine bX rfl rfl ?_;refine au 1 ?_;refine al (aW rfl Tn.u rfl Kr B5) ?_;refine al (aW rfl Tn.u rfl Kr B3) ?_;refine aC func177 rfl (ke _ _ _ _ VJ VK VI VA _) ?_;rintro e w4 ⟨rfl, ex⟩;obtain ⟨F,B2,B3,B4,B5⟩ := eQ ex F B2 B3 B4 B5;refine au 1 ?_;refine ag (aP (o := 0) rfl rfl Kr B5 Nb (aO rfl)) rfl ?_;rintro _ VC ⟨rfl, D, cg⟩;have ex := aE.one cg;clear cg;obtain ⟨F,B2,B3,B4⟩ := dF ex F B2 B3 B4;replace B5 := D; clear D;replace B5 := B5.congr (cs' := pv ((os a b c d n).1 ^^^ (qs c d n).1) ((os a b c d n).2 ^^^ (qs c d n).2)) rfl;have hbit : bit a b n = 1 := by unfold bit; rw [if_neg Om]; omega
   replace B5 := B5.congr (cs' := pv (os a b c d (n + 1)).1 (os a b c d (n + 1)).2) (by rw [os, if_pos hbit]);refine au 4 ?_;refine al (fP 1 1 0 1 Tn.u) ?_;refine al (af rfl Tn.u rfl (B3.get (i := 1) rfl)) ?_;refine al (cV rfl rfl (vt _ VA)) ?_;refine au 5 ?_;refine al (fP 0 1 0 0 Tn.u) ?_;refine al (af rfl Tn.u rfl (B3.get (i := 0) rfl)) ?_;refine al (cB rfl rfl Om (qN _)) ?_;refine al (fP 1 1 0 1 Tn.u) ?_;refine al (af rfl Tn.u rfl (B3.get (i := 1) rfl)) ?_;refine al (cB rfl rfl Om (qN _)) ?_;refine al (fP 0 1 0 0 Tn.u) ?_;refine al (af rfl Tn.u rfl (B3.get (i := 0) rfl)) ?_;refine al (gd rfl rfl Om (wC _)) ?_;refine al (jN rfl rfl ((cD Om (Nat.mod_lt _ Om)).2.1)) ?_;refine al (ar rfl (cells := pv ((qs c d n).1 / 2) ((qs c d n).2 / 2 ||| ((qs c d n).1 * 9223372036854775808 % 18446744073709551616))) Kr) ?_;refine ag (aP (o := 0) rfl rfl Kr B3 Nb (aO rfl)) rfl ?_;rintro _ Vq ⟨rfl, D, cg⟩;have ex := aE.one cg;clear cg;obtain ⟨F,B2,B4,B5⟩ := dF ex F B2 B4 B5;replace B3 := D; clear D;replace B3 := B3.congr (cs' := pv ((qs c d n).1 / 2) ((qs c d n).2 / 2 ||| ((qs c d n).1 * 9223372036854775808 % 18446744073709551616))) rfl;refine au 4 ?_;refine al (fP 0 1 0 0 Tn.u) ?_;refine al (af rfl Tn.u rfl (B3.get (i := 0) rfl)) ?_;refine au 1 ?_;refine al (cL rfl rfl (show _ = (((qs c d n).2 % 2 * 225 : Nat) : Int) from IntWalk.u64_in _ ⟨by omega, by omega⟩)) ?_;refine al (gd rfl rfl Om (xa _)) ?_;refine al (bP rfl rfl ((cD Om (Nat.mod_lt _ Om)).2.2)) ?_;refine al (fP 0 1 0 0 Tn.u) ?_;refine ag (aq (i := 0) rfl rfl rfl Kr B3 Nb) rfl ?_;rintro _ Vt ⟨rfl, D, cg⟩;have ex := aE.one cg;clear cg;obtain ⟨F,B2,B4,B5⟩ := dF ex F B2 B4 B5;replace B3 := D; clear D;replace B3 := B3.congr (cs' := pv (qs c d (n + 1)).1 (qs c d (n + 1)).2) rfl;refine au 6 ?_;refine al (aN rfl rfl (bj Om Om)) ?_;refine au 6 ?_;refine al (eX rfl rfl) ?_;refine au 2 ?_;refine ak rfl (fun Vx => ?_) (fun Vx => ?_)
   ·refine au 2 ?_;refine cz ?_;refine Vz _ _ ⟨n + 1, Vs, rfl, rfl, by omega, VE, n34, n45, VF, F, B2, B3, B4, B5⟩ Om Ls
   obtain rfl : n = 127 := by omega
   refine au 4 ?_;refine al (aW rfl Tn.u rfl Kr B5) ?_;refine ag (aP (o := 0) rfl rfl Kr B4 Nb (aO rfl)) rfl ?_;rintro _ Vr ⟨rfl, D, cg⟩;have ex := aE.one cg;clear cg;replace F := F.bk ex;replace B4 := D; clear D;replace B4 := B4.congr (cs' := pv (os a b c d 128).1 (os a b c d 128).2) rfl;refine au 3 ?_;refine bW ?_;refine hret rfl B4 rfl ?_;exact ⟨rfl, ((F.drop Om).drop Om).drop Om |>.aS (by simp)⟩
  refine au 4 ?_;refine bg rfl rfl ?_;have hbit : ¬ bit a b n = 1 := by unfold bit; rw [if_neg Om]; omega
  replace B5 := B5.congr (cs' := pv (os a b c d (n + 1)).1 (os a b c d (n + 1)).2) (by rw [os, if_neg hbit]);refine au 4 ?_;refine al (fP 1 1 0 1 Tn.u) ?_;refine al (af rfl Tn.u rfl (B3.get (i := 1) rfl)) ?_;refine al (cV rfl rfl (vt _ VA)) ?_;refine au 5 ?_;refine al (fP 0 1 0 0 Tn.u) ?_;refine al (af rfl Tn.u rfl (B3.get (i := 0) rfl)) ?_;refine al (cB rfl rfl Om (qN _)) ?_;refine al (fP 1 1 0 1 Tn.u) ?_;refine al (af rfl Tn.u rfl (B3.get (i := 1) rfl)) ?_;refine al (cB rfl rfl Om (qN _)) ?_;refine al (fP 0 1 0 0 Tn.u) ?_;refine al (af rfl Tn.u rfl (B3.get (i := 0) rfl)) ?_;refine al (gd rfl rfl Om (wC _)) ?_;refine al (jN rfl rfl ((cD Om (Nat.mod_lt _ Om)).2.1)) ?_;refine al (ar rfl (cells := pv ((qs c d n).1 / 2) ((qs c d n).2 / 2 ||| ((qs c d n).1 * 9223372036854775808 % 18446744073709551616))) Kr) ?_;refine ag (aP (o := 0) rfl rfl Kr B3 Nb (aO rfl)) rfl ?_;rintro _ Vq ⟨rfl, D, cg⟩;have ex := aE.one cg;clear cg;obtain ⟨F,B2,B4,B5⟩ := dF ex F B2 B4 B5;replace B3 := D; clear D;replace B3 := B3.congr (cs' := pv ((qs c d n).1 / 2) ((qs c d n).2 / 2 ||| ((qs c d n).1 * 9223372036854775808 % 18446744073709551616))) rfl;refine au 4 ?_;refine al (fP 0 1 0 0 Tn.u) ?_;refine al (af rfl Tn.u rfl (B3.get (i := 0) rfl)) ?_;refine au 1 ?_;refine al (cL rfl rfl (show _ = (((qs c d n).2 % 2 * 225 : Nat) : Int) from IntWalk.u64_in _ ⟨by omega, by omega⟩)) ?_;refine al (gd rfl rfl Om (xa _)) ?_;refine al (bP rfl rfl ((cD Om (Nat.mod_lt _ Om)).2.2)) ?_;refine al (fP 0 1 0 0 Tn.u) ?_;refine ag (aq (i := 0) rfl rfl rfl Kr B3 Nb) rfl ?_;rintro _ Vt ⟨rfl, D, cg⟩;have ex := aE.one cg;clear cg;obtain ⟨F,B2,B4,B5⟩ := dF ex F B2 B4 B5;replace B3 := D; clear D;replace B3 := B3.congr (cs' := pv (qs c d (n + 1)).1 (qs c d (n + 1)).2) rfl;refine au 6 ?_;refine al (aN rfl rfl (bj Om Om)) ?_;refine au 6 ?_;refine al (eX rfl rfl) ?_;refine au 2 ?_;refine ak rfl (fun Vx => ?_) (fun Vx => ?_)
  ·refine au 2 ?_;refine cz ?_;refine Vz _ _ ⟨n + 1, Vs, rfl, rfl, by omega, VE, n34, n45, VF, F, B2, B3, B4, B5⟩ Om Ls
  obtain rfl : n = 127 := by omega
  refine au 4 ?_;refine al (aW rfl Tn.u rfl Kr B5) ?_;refine ag (aP (o := 0) rfl rfl Kr B4 Nb (aO rfl)) rfl ?_;rintro _ Vr ⟨rfl, D, cg⟩;have ex := aE.one cg;clear cg;replace F := F.bk ex;replace B4 := D; clear D;replace B4 := B4.congr (cs' := pv (os a b c d 128).1 (os a b c d 128).2) rfl;refine au 3 ?_;refine bW ?_;refine hret rfl B4 rfl ?_;exact ⟨rfl, ((F.drop Om).drop Om).drop Om |>.aS (by simp)⟩
 intro G Vz;refine au 2 ?_;refine ag (dJ (Z := #[.int .u64 0, .int .u64 0]) Kr) rfl ?_;rintro _ _ ⟨Vs, rfl, B5, Vu, ex⟩;have VL : Vw < Vs := Nat.lt_of_lt_of_le B4.lt Vu;replace F := F.grow ex Vu;replace B2 := B2.grow ex Vu;replace B3 := B3.grow ex Vu;replace B4 := B4.grow ex Vu;refine au 7 ?_;refine er ?_; intro VO VG;refine iq ?_;refine ae (VG ?_);exact Vz _ _ ⟨0, Vs, rfl, rfl, Nat.zero_le _, Om, Om, Om, Om, F, B2, B3, B4, B5⟩ Ls
end Go.Proofs.YtgfafidlkldeaaaGreat
