/- What a seed makes: props.Package. No conditions: contracts of the program's functions. -/
import Derived.Test.YtgfafidlkldeaaaGreatDhB
import Derived.Test.YtgfafidlkldeaaaGreatSecE
import Derived.Test.YtgfafidlkldeaaaGreatVk
import Derived.Test.YtgfafidlkldeaaaGreatAu
set_option linter.unusedVariables false
set_option linter.unusedSimpArgs false
set_option maxHeartbeats 4000000
set_option maxRecDepth 4000
namespace Go.Proofs.YtgfafidlkldeaaaGreat
open Go.RowKit Tryz
section
variable {P : Program} {f : FuncId} {fn : Func} {c : Code} {args : Array Value} {R : Ending → World → Prop} {w : World}
theorem tc {p q x : Tmp} {ty Vl : TypeId} (h : fn.results = #[.cell p ty, .cell q Vl, .tmp x]) (tmps : Array Value) {g g' : Nat} {t t' : TypeId} {cs cs' : Array Value} {v : Value} {d d' : TypeDesc}
  (hp : tmps.getD p undef = .pointer (some ⟨g, 0, none⟩)) (hq : tmps.getD q undef = .pointer (some ⟨g', 0, none⟩)) (hx : tmps.getD x undef = v) (hg : ao w g t cs) (Vm : ao w g' t' cs') (hu : P.underlying ty = some d) (hd : (match d with | .struct _ | .array _ _ => true | _ => false) = true) (hi : (P.info? ty).map (·.size) = some cs.size)
  (Vn : P.underlying Vl = some d') (Vo : (match d' with | .struct _ | .array _ _ => true | _ => false) = true) (hi' : (P.info? Vl).map (·.size) = some cs'.size) : (results fn tmps).run P w = .ok (.tuple #[.agg cs, .agg cs', v]) w := by
 have Vp : tmps[p]?.getD undef = .pointer (some ⟨g, 0, none⟩) := by simpa using hp
 have Vq : tmps[q]?.getD undef = .pointer (some ⟨g', 0, none⟩) := by simpa using hq
 have Vr : tmps[x]?.getD undef = v := by simpa using hx
 simp [results, h, Vp, Vq, Vr, asAddr, run_loadVar_row w g t ty cs _ d hg hu hd hi, run_loadVar_row w g' t' Vl cs' _ d' Vm Vn Vo hi']
theorem tE {ty Vl : TypeId} {s s' : Nat} {d d' : TypeDesc} (N : Nat) {u t x : Tmp} (hf : P.funcs[f]? = some fn) (hb : fn.body = some c) (hN : fn.ntmps = N) (hr : fn.results = #[.cell u ty, .cell t Vl, .tmp x]) (hu : P.underlying ty = some d) (hd : (match d with | .struct _ | .array _ _ => true | _ => false) = true) (hs : (P.info? ty).map (·.size) = some s)
  (Vm : P.underlying Vl = some d') (Vn : (match d' with | .struct _ | .array _ _ => true | _ => false) = true) (Vo : (P.info? Vl).map (·.size) = some s') (hsz : Nat.ble args.size N = true)
  (h : ∀ Q : Exit → Act → World → Prop, (∀ {N : Nat} {L : List (Nat × Value)} {w : World} {g g' : Nat} {e e' : TypeId} {cs cs' : Array Value} {v : Value}, look L u = some (.pointer (some ⟨g, 0, none⟩)) → look L t = some (.pointer (some ⟨g', 0, none⟩)) → look L x = some v → ao w g e cs → cs.size = s → ao w g' e' cs' → cs'.size = s' → R (.returned (.tuple #[.agg cs, .agg cs', v])) w → WQ Q .ret N L w) → WC P Q c N (eX 0 args.toList) w) : Calls P f args w R :=
 fK N hf hb hN hsz fun Q hQ => h Q fun {N L w g g' e e' cs cs' v} hv ht hx hg hz Vp Vq hR a ha => hQ (bodyPost_ret (v := .tuple #[.agg cs, .agg cs', v]) (tc hr _ (cE (ha.has _ _ hv)) (cE (ha.has _ _ ht)) (cE (ha.has _ _ hx)) hg Vp hu hd (by rw [hz]; exact hs) Vm Vn (by rw [Vq]; exact Vo)) ha.defers hR)
end
attribute [local irreducible] Y Ef WL WC WK WQ WM cx WN WF cT WJ gZ WG mR WR qo
open Wire Nd M20 Hk
def pa (z : Nat) : List UInt8 := ((List.replicate 32 (0 : UInt8)).set 0 (UInt8.ofNat z)).set 1 (UInt8.ofNat (z / 256))
theorem mf (z : Nat) : (pa z).length = 32 := by unfold pa; simp
theorem jN (z : Nat) (hz : z ≤ 60000) (w : World) :
  Ct 28 #[.int .i64 (z : Int)] w fun e w' => ∃ g, e = .returned (.slice (some ⟨g, 0, none⟩) 32 32) ∧ Bs w' (some ⟨g, 0, none⟩) 32 (pa z) ∧ w.heap.size ≤ g ∧ Ext w w' := by
 have E := Ext.refl w
 refine aj 15 func28 rfl rfl rfl rfl ?_
 intro _ hret
 refine aU ?_
 refine af (dn (n := 32) (z := .int .u8 0) (bytes := 1) rfl rfl Tn.u Kr rfl rfl rfl rfl Om Om) rfl ?_
 rintro _ _ ⟨g1, rfl, D1, Vl, ex⟩
 replace E := E.ext ex
 replace D1 := D1.congr (cs' := cJ (List.replicate 32 0)) Kr
 refine au 8 ?_
 refine ak (bg rfl Tn.u Tn.u (show _ = ((UInt8.ofNat z).toNat : Int) from (IntKind.wrap_u8' _).trans (by rw [UInt8.toNat_ofNat']; omega))) ?_
 refine au 1 ?_
 refine ak (cY rfl rfl Om (show _ = ((z / 256 : Nat) : Int) from (IntWalk.i64_quo _ _ Om).trans Om)) ?_
 refine ak (bg rfl Tn.u Tn.u (show _ = ((UInt8.ofNat (z / 256)).toNat : Int) from (IntKind.wrap_u8' _).trans (by rw [UInt8.toNat_ofNat']; omega))) ?_
 refine ak (aD rfl rfl Tn.u Kr (j := 0) rfl Om) ?_
 refine af (az (i := 0) rfl rfl rfl Kr D1 (by rw [aW]; decide)) rfl ?_
 rintro _ _ ⟨rfl, D2, cg⟩
 replace E := E.aw cg Vl; rw [eR] at D2
 refine ak (aD rfl rfl Tn.u Kr (j := 1) rfl Om) ?_
 refine af (az (i := 1) rfl rfl rfl Kr D2 (by rw [aW, List.length_set]; decide)) rfl ?_
 rintro _ _ ⟨rfl, D3, cg⟩
 replace E := E.aw cg Vl; rw [eR] at D3
 refine aU ?_
 refine hret rfl ?_
 exact ⟨g1, rfl, aZ D3 (mf z), Vl, E⟩
def Hu : ByteArray := ⟨#[105, 110, 105, 116]⟩
def Md : ByteArray := ⟨#[98, 111, 120]⟩
def Im : ByteArray := ⟨#[115, 105, 103, 110]⟩
def GK : ByteArray := ⟨#[75, 101, 121, 80, 97, 99, 107, 97, 103, 101, 84, 66, 83]⟩
theorem ru : GK.size ≤ 1000 := by decide
def vD (seed : Lb) : List UInt8 := Kdf.label seed Hu.data.toList [] 32
def AU (seed : Lb) : List UInt8 := Kdf.label seed Md.data.toList [] 32
def uJ (seed : Lb) : List UInt8 := Kdf.label seed Im.data.toList [] 32
def vY (ident seed : Lb) : bO := ⟨pU (AU seed), Sg.pU (uJ seed), ident, 1, [], []⟩
def pH (ident seed : Lb) : bO := (vY ident seed).put (Sg.sig (uJ seed) (Sg.text FZ.data.toList (fU (vY ident seed) [] 0)))
def Fg (ident seed : Lb) : Pack := ⟨pU (vD seed), pH ident seed, List.replicate 64 0⟩
def Ku (ident seed : Lb) : Pack := ⟨pU (vD seed), pH ident seed, Sg.sig (uJ seed) (Sg.text GK.data.toList (jv (Fg ident seed)))⟩
theorem eD (seed : Lb) : (uJ seed).length = 32 := sM _ _ _ _
theorem ym {ident : Lb} (seed : Lb) (h1 : 1 ≤ ident.length) (h2 : ident.length ≤ 64) : aC (jh (vY ident seed)) :=
 ⟨cK _, Sg.cK _, (by show (List.replicate 64 (0 : UInt8)).length = 64; simp), h1, h2, (show 1 ≤ 1 by omega), (show 1 ≤ 3 by omega), .inl rfl⟩
theorem FQ {ident : Lb} (seed : Lb) (h1 : 1 ≤ ident.length) (h2 : ident.length ≤ 64) : gR (vY ident seed) (uJ seed) [] 0 = (pH ident seed, 0) :=
 Cd (ym seed h1 h2) (.inl rfl) (eD seed)
theorem yy {ident : Lb} (seed : Lb) (h1 : 1 ≤ ident.length) (h2 : ident.length ≤ 64) : aC (pH ident seed) := xf (ym seed h1 h2) (Sg.jd _ _)
theorem jH {ident : Lb} (seed : Lb) (h1 : 1 ≤ ident.length) (h2 : ident.length ≤ 64) : df (Fg ident seed) :=
 ⟨cK _, ⟨yy seed h1 h2, rfl⟩, (by show (List.replicate 64 (0 : UInt8)).length = 64; simp)⟩
theorem vJ {ident : Lb} (seed : Lb) (h1 : 1 ≤ ident.length) (h2 : ident.length ≤ 64) : df (Ku ident seed) :=
 ⟨cK _, ⟨yy seed h1 h2, rfl⟩, Sg.jd _ _⟩
theorem dR {p : Pack} (h : df p) : p.Small := by
 obtain ⟨h1, ⟨⟨o1, o2, o3, o4, o5, o6, o7, o8⟩, hs⟩, h3⟩ := h
 refine ⟨by omega, by omega, ?_⟩
 refine ⟨by show p.leaf.box.length ≤ 200; omega, by show p.leaf.sign.length ≤ 200; omega, by show p.leaf.ident.length ≤ 200; omega, by show p.leaf.parent.length ≤ 200; omega, by show p.leaf.sig.length ≤ 200; omega, ?_⟩
 exact ⟨Nat.zero_le _, Nat.zero_le _, Nat.zero_le _⟩
theorem DL {ident : Lb} (seed : Lb) (h2 : ident.length ≤ 64) : (vY ident seed).Fit :=
 ⟨by show (pU _).length ≤ _; rw [cK]; omega, by show (Sg.pU _).length ≤ _; rw [Sg.cK]; omega, by show ident.length ≤ _; omega, by show (0 : Nat) ≤ _; omega, by show (0 : Nat) ≤ _; omega⟩
theorem Gc {ident : Lb} (seed : Lb) (h2 : ident.length ≤ 64) : (dt (vY ident seed)).length ≤ 80000 := by
 refine Nat.le_trans (uW ?_) (show 900 ≤ 80000 by omega)
 exact ⟨by show (pU _).length ≤ _; rw [cK]; omega, by show (Sg.pU _).length ≤ _; rw [Sg.cK]; omega, by show ident.length ≤ _; omega, by show (0 : Nat) ≤ _; omega, by show (0 : Nat) ≤ _; omega, Nat.zero_le _, Nat.zero_le _, Nat.zero_le _⟩
def HZ (w : World) (cs : Array Value) (a b c : Lb) : Prop := ∃ h0 h1 h2 : Hd, cs = dw h0 h1 h2 ∧ nI w h0 a ∧ nI w h1 b ∧ nI w h2 c
theorem BS {Q : Option Addr → Nat → List UInt8 → Prop} {h0 h1 h2 h4 h5 : Hd} {s : Nat} {a b c d e : Lb} (hs : s < 256) (x0 : Q h0.A h0.n a) (x1 : Q h1.A h1.n b) (x2 : Q h2.A h2.n c) (x4 : Q h4.A h4.n d) (x5 : Q h5.A h5.n e) : ik (fun h xs => Q h.A h.n xs) (fL h0 h1 h2 s h4 h5) ⟨a, b, c, s, d, e⟩ :=
 ⟨h0, h1, h2, h4, h5, rfl, hs, x0, x1, x2, x4, x5⟩
theorem lu {Q : Option Addr → Nat → List UInt8 → Prop} {i h0 h1 h2 h4 h5 g : Hd} {l : bO} {a k : Lb} (hs : l.src < 256) (x : Q i.A i.n a) (x0 : Q h0.A h0.n l.box) (x1 : Q h1.A h1.n l.sign) (x2 : Q h2.A h2.n l.ident) (x4 : Q h4.A h4.n l.parent) (x5 : Q h5.A h5.n l.sig) (y : Q g.A g.n k) : fG (fun h xs => Q h.A h.n xs) (dk i h0 h1 h2 l.src h4 h5 g) ⟨a, l, k⟩ :=
 ⟨i, h0, h1, h2, h4, h5, g, rfl, hs, x, x0, x1, x2, x4, x5, y⟩
theorem four {a b c d n : Nat} (h1 : a < n) (h2 : b < n) (h3 : c < n) (h4 : d < n) : ∀ g ∈ [a, b, c, d], g < n := by simp; omega
def ox (base : Nat) (w : World) (cs : Array Value) (p : Pack) : Prop := fG (fun h xs => Fb base w h.A h.n xs) cs p
theorem ox.at {base : Nat} {w : World} {cs : Array Value} {p : Pack} (h : ox base w cs p) : cS w cs p := fG.imp h fun _ _ b => b.1
theorem ox.ext {base : Nat} {w w' : World} {cs : Array Value} {p : Pack} (h : ox base w cs p) (e : Ext w w') : ox base w' cs p := fG.imp h fun _ _ b => b.ext e
def vG (base : Nat) (w : World) (cs : Array Value) (a b c : Lb) : Prop := ∃ h0 h1 h2 : Hd, cs = dw h0 h1 h2 ∧ Fb base w h0.A h0.n a ∧ Fb base w h1.A h1.n b ∧ Fb base w h2.A h2.n c
theorem vG.ext {base : Nat} {w w' : World} {cs : Array Value} {a b c : Lb} (h : vG base w cs a b c) (e : Ext w w') : vG base w' cs a b c := by
 obtain ⟨h0, h1, h2, q, x, y, z⟩ := h; exact ⟨h0, h1, h2, q, x.ext e, y.ext e, z.ext e⟩
theorem vG.at {base : Nat} {w : World} {cs : Array Value} {a b c : Lb} (h : vG base w cs a b c) : HZ w cs a b c := by
 obtain ⟨h0, h1, h2, e, x, y, z⟩ := h; exact ⟨h0, h1, h2, e, x.1, y.1, z.1⟩
theorem nk {A : Oa} {n c : Nat} {ident : Lb} {B : Oa} {d : Nat} {seed : Lb} (w : World) (HA : Bs w A n ident) (h1 : 1 ≤ n) (h2 : n ≤ 64) (HB : Bs w B 32 seed) :
  Ct 27 #[.slice A n c, .slice B 32 d] w fun e w' => ∃ cs ks, e = .returned (.tuple #[.agg cs, .agg ks, .int .u8 0]) ∧ ox w.heap.size w' cs (Ku ident seed) ∧ Hi 3 w' cs ∧ vG w.heap.size w' ks (mj (vD seed)) (mj (AU seed)) (uJ seed) ∧ Ext w w' := by
 have hil := HA.1
 have F := aX.refl [] w
 have KI : Kp w.heap.size [] (fun w => Bs w A n ident) w := Kp.bs HA (by simp)
 have KB : Kp w.heap.size [] (fun w => Bs w B 32 seed) w := Kp.bs HB (by simp)
 refine tE (s := 8) (s' := 3) 83 func27 rfl rfl rfl underlying29 rfl Kr underlying51 rfl Kr rfl ?_
 intro Q hret
 refine aU ?_
 intro _ Vq B4 Vt ex
 have VP := ex.size
 replace F := F.grow ex Vt
 replace KI := KI.grow ex Vt
 replace KB := KB.grow ex Vt
 refine aU ?_
 intro _ Vr B5 Vo ex
 have VD : Vq < Vr := Nat.lt_of_lt_of_le B4.lt Vo
 replace F := F.grow ex Vo
 replace KI := KI.grow ex Vo
 replace KB := KB.grow ex Vo
 replace B4 := B4.grow ex Vo
 refine aU ?_
 intro _ Vs B7 Vn ex
 have VE : Vq < Vs := Nat.lt_of_lt_of_le B4.lt Vn
 have VF : Vr < Vs := Nat.lt_of_lt_of_le B5.lt Vn
 replace F := F.grow ex Vn
 replace KI := KI.grow ex Vn
 replace KB := KB.grow ex Vn
 replace B4 := B4.grow ex Vn
 replace B5 := B5.grow ex Vn
 refine aU ?_
 intro _ Vu B8 Vm ex
 have VG : Vq < Vu := Nat.lt_of_lt_of_le B4.lt Vm
 have VH : Vr < Vu := Nat.lt_of_lt_of_le B5.lt Vm
 have VI : Vs < Vu := Nat.lt_of_lt_of_le B7.lt Vm
 replace F := F.grow ex Vm
 replace KI := KI.grow ex Vm
 replace KB := KB.grow ex Vm
 replace B4 := B4.grow ex Vm
 replace B5 := B5.grow ex Vm
 replace B7 := B7.grow ex Vm
 refine aU ?_
 replace B4 := B4.congr (cs' := dk aq aq aq aq 0 aq aq aq) rfl
 replace B5 := B5.congr (cs' := dw aq aq aq) rfl
 replace B7 := B7.congr (cs' := dk aq aq aq aq 0 aq aq aq) rfl
 replace B8 := B8.congr (cs' := dw aq aq aq) rfl
 refine aL func67 rfl (kJ B 32 d Hu seed _ KB.out Om (by decide)) ?_
 rintro e _ ⟨A1, c1, rfl, ⟨H1, _⟩, ex⟩
 obtain ⟨F,KI,KB,B4,B5,B7,B8⟩ := gY ex F KI KB B4 B5 B7 B8
 refine aU ?_
 have a2 := F.size; have a4 := four B8.lt B7.lt B5.lt B4.lt
 refine aL func66 rfl (mQ A1 32 c1 (vD seed) _ H1 Om) ?_
 rintro e w2 ⟨Aa, ca, Ab, cb, rfl, Ha, Hb, _, ex⟩
 obtain ⟨F,KI,KB,B4,B5,B7,B8⟩ := gY ex F KI KB B4 B5 B7 B8
 have Ja := Ha.fb.kk a4; have Jb := Hb.fb.kk a4
 refine aU ?_
 intro _ D cg
 have ex := aX.one cg
 clear cg
 obtain ⟨F,KI,KB,B4,B5,B7,Ja,Jb⟩ := LB ex F KI KB B4 B5 B7 Ja Jb
 replace B8 := D; clear D
 replace B8 := B8.congr (cs' := dw ⟨Aa, 32, ca⟩ aq aq) rfl
 refine aU ?_
 intro _ D cg
 have ex := aX.one cg
 clear cg
 obtain ⟨F,KI,KB,B4,B5,B8,Ja,Jb⟩ := LB ex F KI KB B4 B5 B8 Ja Jb
 replace B7 := D; clear D
 replace B7 := B7.congr (cs' := dk ⟨Ab, 32, cb⟩ aq aq aq 0 aq aq aq) rfl
 refine aU ?_
 refine aL func67 rfl (kJ B 32 d Md seed _ KB.out Om (by decide)) ?_
 rintro e _ ⟨A3, c3, rfl, ⟨H3, _⟩, ex⟩
 obtain ⟨F,KI,KB,B4,B5,B7,B8,Ja,Jb⟩ := vC ex F KI KB B4 B5 B7 B8 Ja Jb
 refine aU ?_
 have b2 := F.size; have b4 := four B8.lt B7.lt B5.lt B4.lt
 refine aL func66 rfl (mQ A3 32 c3 (AU seed) _ H3 Om) ?_
 rintro e _ ⟨Ac, cc, Ad, cd, rfl, Hc, Hd, _, ex⟩
 obtain ⟨F,KI,KB,B4,B5,B7,B8,Ja,Jb⟩ := vC ex F KI KB B4 B5 B7 B8 Ja Jb
 have Jc := Hc.fb.kk b4; have Jd := Hd.fb.kk b4
 refine aU ?_
 intro _ D cg
 have ex := aX.one cg
 clear cg
 obtain ⟨F,KI,KB,B4,B5,B7,Ja,Jb,Jc⟩ := jq ex F KI KB B4 B5 B7 Ja Jb Jc
 replace Jd := Jd.bT ex
 replace B8 := D; clear D
 replace B8 := B8.congr (cs' := dw ⟨Aa, 32, ca⟩ ⟨Ac, 32, cc⟩ aq) rfl
 refine aU ?_
 intro _ D cg
 have ex := aX.one cg
 clear cg
 obtain ⟨F,KI,KB,B4,B5,B8,Ja,Jb,Jc⟩ := jq ex F KI KB B4 B5 B8 Ja Jb Jc
 replace Jd := Jd.bT ex
 replace B7 := D; clear D
 replace B7 := B7.congr (cs' := dk ⟨Ab, 32, cb⟩ ⟨Ad, 32, cd⟩ aq aq 0 aq aq aq) rfl
 refine aU ?_
 have c2 := F.size; have c4 := four B8.lt B7.lt B5.lt B4.lt
 refine aL func67 rfl (kJ B 32 d Im seed _ KB.out Om (by decide)) ?_
 rintro e _ ⟨Ae, ce, rfl, He, ex⟩
 obtain ⟨F,KI,B4,B5,B7,B8,Ja,Jb,Jc⟩ := vC ex F KI B4 B5 B7 B8 Ja Jb Jc
 replace Jd := Jd.ext ex
 have Je := He.fb.kk c4
 refine aU ?_
 intro _ D cg
 have ex := aX.one cg
 clear cg
 obtain ⟨F,KI,B4,B5,B7,Ja,Jb,Jc,Jd⟩ := jq ex F KI B4 B5 B7 Ja Jb Jc Jd
 replace Je := Je.bT ex
 replace B8 := D; clear D
 replace B8 := B8.congr (cs' := dw ⟨Aa, 32, ca⟩ ⟨Ac, 32, cc⟩ ⟨Ae, 32, ce⟩) rfl
 refine aU ?_
 have d4 := four B8.lt B7.lt B5.lt B4.lt
 refine aL func29 rfl (Aw (c := ce) Je.out.bs (eD seed)) ?_
 rintro e _ ⟨Ag, cg, rfl, Hg, _, ex⟩
 obtain ⟨F,KI,B4,B5,B7,B8,Ja,Jb,Jc⟩ := vC ex F KI B4 B5 B7 B8 Ja Jb Jc
 obtain ⟨Jd,Je⟩ := aY ex Jd Je
 have Jg := Hg.fb.kk d4
 refine aU ?_
 intro _ D cg
 have ex := aX.one cg
 clear cg
 obtain ⟨F,KI,B4,B5,B8,Ja,Jb,Jc,Jd⟩ := jq ex F KI B4 B5 B8 Ja Jb Jc Jd
 obtain ⟨Je,Jg⟩ := rL ex Je Jg
 replace B7 := D; clear D
 replace B7 := B7.congr (cs' := dk ⟨Ab, 32, cb⟩ ⟨Ad, 32, cd⟩ ⟨Ag, 32, cg⟩ aq 0 aq aq aq) rfl
 refine aU ?_
 intro _ D cg
 have ex := aX.one cg
 clear cg
 obtain ⟨F,KI,B4,B5,B8,Ja,Jb,Jc,Jd⟩ := jq ex F KI B4 B5 B8 Ja Jb Jc Jd
 obtain ⟨Je,Jg⟩ := rL ex Je Jg
 replace B7 := D; clear D
 replace B7 := B7.congr (cs' := dk ⟨Ab, 32, cb⟩ ⟨Ad, 32, cd⟩ ⟨Ag, 32, cg⟩ ⟨A, n, c⟩ 0 aq aq aq) rfl
 refine aU ?_
 intro _ D cg
 have ex := aX.one cg
 clear cg
 obtain ⟨F,KI,B4,B5,B8,Ja,Jb,Jc,Jd⟩ := jq ex F KI B4 B5 B8 Ja Jb Jc Jd
 obtain ⟨Je,Jg⟩ := rL ex Je Jg
 replace B7 := D; clear D
 replace B7 := B7.congr (cs' := dk ⟨Ab, 32, cb⟩ ⟨Ad, 32, cd⟩ ⟨Ag, 32, cg⟩ ⟨A, n, c⟩ 1 aq aq aq) rfl
 refine aU ?_
 have HL : dz _ _ (vY ident seed) := BS (Q := Bs _) (h0 := ⟨Ad, 32, cd⟩) (h1 := ⟨Ag, 32, cg⟩) (h2 := ⟨A, n, c⟩) (h4 := aq) (h5 := aq) (s := 1) Om Jd.out.bs Jg.out.bs KI.out (Bs.nil _ _) (Bs.nil _ _)
 have Vp := F.size
 have m4 := four B8.lt B7.lt B5.lt B4.lt
 refine aL func68 rfl (sU (z := 0) _ HL (DL seed Om) (Gc seed Om) Je.out.bs (show 32 ≤ 100 by omega) (Bs.nil _ none) (Nat.zero_le 100) (FQ seed Om Om)) ?_
 rintro e w7 ⟨_, rfl, LA, IT, ex⟩
 obtain ⟨F,B4,B5,B7,B8,Ja,Jb,Jc,Je⟩ := vC ex F B4 B5 B7 B8 Ja Jb Jc Je
 obtain ⟨i0, i1, i2, i4, i5, rfl, _, ⟨l0, _⟩, ⟨l1, _⟩, ⟨l2, _⟩, ⟨l4, _⟩, ⟨l5, _⟩⟩ := LA; have L0 := l0.kk m4; have L1 := l1.kk m4; have L2 := l2.kk m4; have L4 := l4.kk m4; have L5 := l5.kk m4; have LT : Kp _ [Vu, Vs, Vr, Vq] (fun w => ∀ b o, i2.A = some ⟨b, o, none⟩ → ∃ cur, ao w b 5 cur) w7 := ⟨Nat.le_refl _, fun w2 hw b o e => by obtain ⟨cur, hb⟩ := IT _ _ _ rfl b o e; exact ⟨cur, (hw b hb.lt fun hm => by have h1 := l2.2 (by have := l2.1.1; have h2 : 1 ≤ (pH ident seed).ident.length := (show 1 ≤ ident.length by omega); omega) b o e; have h3 := m4 b hm; omega).trans hb⟩⟩
 refine aU ?_
 intro _ VA B9 Vl ex
 have VJ : Vq < VA := Nat.lt_of_lt_of_le B4.lt Vl
 have VK : Vr < VA := Nat.lt_of_lt_of_le B5.lt Vl
 have VL : Vs < VA := Nat.lt_of_lt_of_le B7.lt Vl
 have VM : Vu < VA := Nat.lt_of_lt_of_le B8.lt Vl
 replace F := F.grow ex Vl
 replace B4 := B4.grow ex Vl
 replace B5 := B5.grow ex Vl
 replace B7 := B7.grow ex Vl
 replace B8 := B8.grow ex Vl
 replace Ja := Ja.grow ex Vl
 replace Jb := Jb.grow ex Vl
 replace Jc := Jc.grow ex Vl
 replace Je := Je.grow ex Vl
 replace LT := LT.grow ex Vl
 replace L0 := L0.grow ex Vl
 replace L1 := L1.grow ex Vl
 replace L2 := L2.grow ex Vl
 replace L4 := L4.grow ex Vl
 replace L5 := L5.grow ex Vl
 refine aU ?_
 intro _ D cg
 have ex := aX.one cg
 clear cg
 obtain ⟨F,B4,B5,B7,B8,Ja,Jb,Jc,Je⟩ := jq ex F B4 B5 B7 B8 Ja Jb Jc Je
 obtain ⟨LT,L0,L1,L2,L4,L5⟩ := tI ex LT L0 L1 L2 L4 L5
 replace B9 := D; clear D
 refine aU ?_
 refine iy [(3, [Vs]), (5, [Vs])] Kr 6 rfl ?_; intro VN ex VO
 obtain ⟨F,B4,B5,B7,B8,Ja,Jb,Jc,Je⟩ := vC ex F B4 B5 B7 B8 Ja Jb Jc Je
 obtain ⟨LT,L0,L1,L2,L4,L5,B9⟩ := gY ex LT L0 L1 L2 L4 L5 B9
 refine vF [(0, []), (2, [])] ?_
 refine aU ?_
 refine KO 1 3 Kr ?_ ?_
 ·skip
  have q7 := B7.lt
  have q8 := B8.lt
  have q4 := B4.lt
  have q5 := B5.lt
  refine gv rfl (dn (n := 64) (z := .int .u8 0) (bytes := 1) rfl rfl underlying23 Kr rfl rfl rfl rfl Om Om) rfl ?_
  rintro _ wm ⟨gm, rfl, Dm, hgm, ex⟩
  refine ⟨aX.of ex _, ?_⟩
  obtain ⟨F,B4,B5,B7,B8,Ja,Jb,Jc,Je⟩ := vC ex F B4 B5 B7 B8 Ja Jb Jc Je
  obtain ⟨LT,L0,L1,L2,L4,L5⟩ := gL ex LT L0 L1 L2 L4 L5
  have Jm : Kp wm.heap.size [Vu, Vs, Vr, Vq] (fun w => Bs w (some ⟨gm, 0, none⟩) 64 (List.replicate 64 0)) wm := Kp.bs (sC Dm (by rfl)) (fun _ g hg o e => by injection e with e; injection e with e _ _; simp at hg; omega)
  refine eO 3 Kr ?_; refine gv rfl (bA (o := 1) rfl rfl Kr B7 Nb (bf rfl)) rfl ?_
  rintro _ Vv ⟨rfl, D, cg⟩
  have ex := aX.one cg
  clear cg
  refine ⟨ex, ?_⟩
  obtain ⟨F,B4,B5,B8,Ja,Jb,Jc,Je,LT⟩ := jq ex F B4 B5 B8 Ja Jb Jc Je LT
  obtain ⟨L0,L1,L2,L4,L5,Jm⟩ := tI ex L0 L1 L2 L4 L5 Jm
  replace B7 := D; clear D
  refine vF [(4, [])] ?_
  refine aU ?_
  refine eO 5 Kr ?_; refine gv rfl (az (i := 7) rfl rfl rfl Kr B7 Nb) rfl ?_
  rintro _ Vw ⟨rfl, D, cg⟩
  have ex := aX.one cg
  clear cg
  refine ⟨ex, ?_⟩
  obtain ⟨F,B4,B5,B8,Ja,Jb,Jc,Je,LT⟩ := jq ex F B4 B5 B8 Ja Jb Jc Je LT
  obtain ⟨L0,L1,L2,L4,L5,Jm⟩ := tI ex L0 L1 L2 L4 L5 Jm
  replace B7 := D; clear D
  refine iG Kr ?_
  replace B7 := B7.congr (cs' := dk ⟨Ab, 32, cb⟩ i0 i1 i2 (pH ident seed).src i4 i5 ⟨some ⟨gm, 0, none⟩, 64, 64⟩) rfl
  refine aU ?_
  have HP : cS _ _ (Fg ident seed) := lu (Q := Bs _) (i := ⟨Ab, 32, cb⟩) (g := ⟨some ⟨gm, 0, none⟩, 64, 64⟩) (show 1 < 256 by omega) Jb.out.bs L0.out.bs L1.out.bs L2.out.bs L4.out.bs L5.out.bs Jm.out
  refine aL func69 rfl (jg _ HP (dR (jH seed Om Om)).fit) ?_
  rintro e wt ⟨At, kt, ct, zt, rfl, Tt, hkt, ex⟩
  obtain ⟨F,B4,B5,B7,B8,Ja,Jb,Jc,Je⟩ := vC ex F B4 B5 B7 B8 Ja Jb Jc Je
  obtain ⟨LT,L0,L1,L2,L4,L5⟩ := gL ex LT L0 L1 L2 L4 L5
  have Ht := (Tt.1 (jH seed Om Om)).2; have hlt := Ht.1; have hls := jy (dR (jH (ident := ident) seed Om Om))
  refine aU ?_
  have f2 := F.size; have f4 := four B8.lt B7.lt B5.lt B4.lt
  refine aL func63 rfl (xz (s := GK) (c := ce) (d := ct) Je.out.bs Ht (eD seed) ru Om) ?_
  rintro e wl ⟨Al, cl, rfl, Hl, hcl, ex⟩
  obtain ⟨F,B4,B5,B7,B8,Ja,Jb,Jc,Je⟩ := vC ex F B4 B5 B7 B8 Ja Jb Jc Je
  obtain ⟨LT,L0,L1,L2,L4,L5⟩ := gL ex LT L0 L1 L2 L4 L5
  have Jl := Hl.fb.kk f4
  refine aU ?_
  intro Vx D cg
  have ex := aX.one cg
  clear cg
  obtain ⟨F,B4,B5,B8,Ja,Jb,Jc,Je,LT⟩ := jq ex F B4 B5 B8 Ja Jb Jc Je LT
  obtain ⟨L0,L1,L2,L4,L5,Jl⟩ := tI ex L0 L1 L2 L4 L5 Jl
  replace B7 := D; clear D
  replace B7 := B7.congr (cs' := dk ⟨Ab, 32, cb⟩ i0 i1 i2 (pH ident seed).src i4 i5 ⟨Al, 64, cl⟩) rfl
  refine aU ?_
  refine iy [(2, [Vq]), (3, [Vr])] Kr 5 rfl ?_; intro VB ex VC
  obtain ⟨F,B4,B5,B7,B8,Ja,Jb,Jc,Je⟩ := vC ex F B4 B5 B7 B8 Ja Jb Jc Je
  obtain ⟨LT,L0,L1,L2,L4,L5,Jl⟩ := gY ex LT L0 L1 L2 L4 L5 Jl
  refine vF [(0, []), (1, [2])] ?_
  refine aU ?_
  refine eO 2 Kr ?_; refine gv rfl (bA (o := 0) rfl rfl Kr B4 Nb (bf rfl)) rfl ?_
  rintro _ Vy ⟨rfl, D, cg⟩
  have ex := aX.one cg
  clear cg
  refine ⟨ex, ?_⟩
  obtain ⟨F,B5,Ja,Jb,Jc,Je,LT,L0,L1⟩ := jq ex F B5 Ja Jb Jc Je LT L0 L1
  obtain ⟨L2,L4,L5,Jl⟩ := kA ex L2 L4 L5 Jl
  replace B4 := D; clear D
  refine eO 3 Kr ?_; refine gv rfl (bA (o := 0) rfl rfl Kr B5 Nb (bf rfl)) rfl ?_
  rintro _ Vz ⟨rfl, D, cg⟩
  have ex := aX.one cg
  clear cg
  refine ⟨ex, ?_⟩
  obtain ⟨F,B4,Ja,Jb,Jc,Je,LT,L0,L1⟩ := jq ex F B4 Ja Jb Jc Je LT L0 L1
  obtain ⟨L2,L4,L5,Jl⟩ := kA ex L2 L4 L5 Jl
  replace B5 := D; clear D
  refine vF [(4, [])] ?_
  refine aU ?_
  refine iG Kr ?_
  replace B4 := B4.congr (cs' := dk ⟨Ab, 32, cb⟩ i0 i1 i2 (pH ident seed).src i4 i5 ⟨Al, 64, cl⟩) rfl
  replace B5 := B5.congr (cs' := dw ⟨Aa, 32, ca⟩ ⟨Ac, 32, cc⟩ ⟨Ae, 32, ce⟩) rfl
  refine aU ?_
  refine hret rfl rfl rfl B4 rfl B5 rfl ?_
  exact ⟨_, _, rfl, lu (Q := Fb _ _) (i := ⟨Ab, 32, cb⟩) (g := ⟨Al, 64, cl⟩) (show 1 < 256 by omega) (Jb.out.mono a2) (L0.out.mono Vp) (L1.out.mono Vp) (L2.out.mono Vp) (L4.out.mono Vp) (L5.out.mono Vp) (Jl.out.mono f2), (fun A' n' c' e b o ha => by have e' : some (Value.slice i2.A i2.n i2.c) = some (.slice A' n' c') := e; injection e' with e'; injection e' with e1 _ _; exact LT.out b o (e1.trans ha)), ⟨⟨Aa, 32, ca⟩, ⟨Ac, 32, cc⟩, ⟨Ae, 32, ce⟩, rfl, Ja.out.mono a2, Jc.out.mono b2, Je.out.mono c2⟩, F.cM So⟩
 ·skip
  refine gv rfl (bA (o := 1) rfl rfl Kr B7 Nb (bf rfl)) rfl ?_
  rintro _ Vv ⟨rfl, D, cg⟩
  have ex := aX.one cg
  clear cg
  refine ⟨ex, ?_⟩
  obtain ⟨F,B4,B5,B8,Ja,Jb,Jc,Je,LT⟩ := jq ex F B4 B5 B8 Ja Jb Jc Je LT
  obtain ⟨L0,L1,L2,L4,L5⟩ := NU ex L0 L1 L2 L4 L5
  replace B7 := D; clear D
  have q7 := B7.lt
  have q8 := B8.lt
  have q4 := B4.lt
  have q5 := B5.lt
  refine eO 1 Kr ?_; refine gv rfl (dn (n := 64) (z := .int .u8 0) (bytes := 1) rfl rfl Tn.u Kr rfl rfl rfl rfl Om Om) rfl ?_
  rintro _ wm ⟨gm, rfl, Dm, hgm, ex⟩
  refine ⟨aX.of ex _, ?_⟩
  obtain ⟨F,B4,B5,B7,B8,Ja,Jb,Jc,Je⟩ := vC ex F B4 B5 B7 B8 Ja Jb Jc Je
  obtain ⟨LT,L0,L1,L2,L4,L5⟩ := gL ex LT L0 L1 L2 L4 L5
  have Jm : Kp wm.heap.size [Vu, Vs, Vr, Vq] (fun w => Bs w (some ⟨gm, 0, none⟩) 64 (List.replicate 64 0)) wm := Kp.bs (sC Dm (by rfl)) (fun _ g hg o e => by injection e with e; injection e with e _ _; simp at hg; omega)
  refine vF [(4, [])] ?_
  refine aU ?_
  refine eO 5 Kr ?_; refine gv rfl (az (i := 7) rfl rfl rfl Kr B7 Nb) rfl ?_
  rintro _ Vw ⟨rfl, D, cg⟩
  have ex := aX.one cg
  clear cg
  refine ⟨ex, ?_⟩
  obtain ⟨F,B4,B5,B8,Ja,Jb,Jc,Je,LT⟩ := jq ex F B4 B5 B8 Ja Jb Jc Je LT
  obtain ⟨L0,L1,L2,L4,L5,Jm⟩ := tI ex L0 L1 L2 L4 L5 Jm
  replace B7 := D; clear D
  refine iG Kr ?_
  replace B7 := B7.congr (cs' := dk ⟨Ab, 32, cb⟩ i0 i1 i2 (pH ident seed).src i4 i5 ⟨some ⟨gm, 0, none⟩, 64, 64⟩) rfl
  refine aU ?_
  have HP : cS _ _ (Fg ident seed) := lu (Q := Bs _) (i := ⟨Ab, 32, cb⟩) (g := ⟨some ⟨gm, 0, none⟩, 64, 64⟩) (show 1 < 256 by omega) Jb.out.bs L0.out.bs L1.out.bs L2.out.bs L4.out.bs L5.out.bs Jm.out
  refine aL func69 rfl (jg _ HP (dR (jH seed Om Om)).fit) ?_
  rintro e wt ⟨At, kt, ct, zt, rfl, Tt, hkt, ex⟩
  obtain ⟨F,B4,B5,B7,B8,Ja,Jb,Jc,Je⟩ := vC ex F B4 B5 B7 B8 Ja Jb Jc Je
  obtain ⟨LT,L0,L1,L2,L4,L5⟩ := gL ex LT L0 L1 L2 L4 L5
  have Ht := (Tt.1 (jH seed Om Om)).2; have hlt := Ht.1; have hls := jy (dR (jH (ident := ident) seed Om Om))
  refine aU ?_
  have f2 := F.size; have f4 := four B8.lt B7.lt B5.lt B4.lt
  refine aL func63 rfl (xz (s := GK) (c := ce) (d := ct) Je.out.bs Ht (eD seed) ru Om) ?_
  rintro e wl ⟨Al, cl, rfl, Hl, hcl, ex⟩
  obtain ⟨F,B4,B5,B7,B8,Ja,Jb,Jc,Je⟩ := vC ex F B4 B5 B7 B8 Ja Jb Jc Je
  obtain ⟨LT,L0,L1,L2,L4,L5⟩ := gL ex LT L0 L1 L2 L4 L5
  have Jl := Hl.fb.kk f4
  refine aU ?_
  intro Vx D cg
  have ex := aX.one cg
  clear cg
  obtain ⟨F,B4,B5,B8,Ja,Jb,Jc,Je,LT⟩ := jq ex F B4 B5 B8 Ja Jb Jc Je LT
  obtain ⟨L0,L1,L2,L4,L5,Jl⟩ := tI ex L0 L1 L2 L4 L5 Jl
  replace B7 := D; clear D
  replace B7 := B7.congr (cs' := dk ⟨Ab, 32, cb⟩ i0 i1 i2 (pH ident seed).src i4 i5 ⟨Al, 64, cl⟩) rfl
  refine aU ?_
  refine iy [(2, [Vq]), (3, [Vr])] Kr 5 rfl ?_; intro VB ex VC
  obtain ⟨F,B4,B5,B7,B8,Ja,Jb,Jc,Je⟩ := vC ex F B4 B5 B7 B8 Ja Jb Jc Je
  obtain ⟨LT,L0,L1,L2,L4,L5,Jl⟩ := gY ex LT L0 L1 L2 L4 L5 Jl
  refine vF [(0, []), (1, [2])] ?_
  refine aU ?_
  refine eO 2 Kr ?_; refine gv rfl (bA (o := 0) rfl rfl Kr B4 Nb (bf rfl)) rfl ?_
  rintro _ Vy ⟨rfl, D, cg⟩
  have ex := aX.one cg
  clear cg
  refine ⟨ex, ?_⟩
  obtain ⟨F,B5,Ja,Jb,Jc,Je,LT,L0,L1⟩ := jq ex F B5 Ja Jb Jc Je LT L0 L1
  obtain ⟨L2,L4,L5,Jl⟩ := kA ex L2 L4 L5 Jl
  replace B4 := D; clear D
  refine eO 3 Kr ?_; refine gv rfl (bA (o := 0) rfl rfl Kr B5 Nb (bf rfl)) rfl ?_
  rintro _ Vz ⟨rfl, D, cg⟩
  have ex := aX.one cg
  clear cg
  refine ⟨ex, ?_⟩
  obtain ⟨F,B4,Ja,Jb,Jc,Je,LT,L0,L1⟩ := jq ex F B4 Ja Jb Jc Je LT L0 L1
  obtain ⟨L2,L4,L5,Jl⟩ := kA ex L2 L4 L5 Jl
  replace B5 := D; clear D
  refine vF [(4, [])] ?_
  refine aU ?_
  refine iG Kr ?_
  replace B4 := B4.congr (cs' := dk ⟨Ab, 32, cb⟩ i0 i1 i2 (pH ident seed).src i4 i5 ⟨Al, 64, cl⟩) rfl
  replace B5 := B5.congr (cs' := dw ⟨Aa, 32, ca⟩ ⟨Ac, 32, cc⟩ ⟨Ae, 32, ce⟩) rfl
  refine aU ?_
  refine hret rfl rfl rfl B4 rfl B5 rfl ?_
  exact ⟨_, _, rfl, lu (Q := Fb _ _) (i := ⟨Ab, 32, cb⟩) (g := ⟨Al, 64, cl⟩) (show 1 < 256 by omega) (Jb.out.mono a2) (L0.out.mono Vp) (L1.out.mono Vp) (L2.out.mono Vp) (L4.out.mono Vp) (L5.out.mono Vp) (Jl.out.mono f2), (fun A' n' c' e b o ha => by have e' : some (Value.slice i2.A i2.n i2.c) = some (.slice A' n' c') := e; injection e' with e'; injection e' with e1 _ _; exact LT.out b o (e1.trans ha)), ⟨⟨Aa, 32, ca⟩, ⟨Ac, 32, cc⟩, ⟨Ae, 32, ce⟩, rfl, Ja.out.mono a2, Jc.out.mono b2, Je.out.mono c2⟩, F.cM So⟩
theorem zr {A : Oa} {n c : Nat} {ident : Lb} {B : Oa} {d : Nat} {seed : Lb} (w : World) (HA : Bs w A n ident) (h1 : 1 ≤ n) (h2 : n ≤ 64) (HB : Bs w B 32 seed) :
  Ct 27 #[.slice A n c, .slice B 32 d] w fun e w' => ∃ cs ks, e = .returned (.tuple #[.agg cs, .agg ks, .int .u8 0]) ∧ cS w' cs (Ku ident seed) ∧ HZ w' ks (mj (vD seed)) (mj (AU seed)) (uJ seed) ∧ Ext w w' :=
 (nk w HA h1 h2 HB).mono fun _ _ ⟨cs, ks, a, b, _, c, d⟩ => ⟨cs, ks, a, b.at, c.at, d⟩
end Go.Proofs.YtgfafidlkldeaaaGreat
