/- What a seed makes: props.Package. No conditions: contracts of the program's functions. -/
import Derived.Test.YtgfafidlkldeaaaGreatMuC
import Derived.Test.YtgfafidlkldeaaaGreatHkA
import Derived.Test.YtgfafidlkldeaaaGreatNdP
import Derived.Test.YtgfafidlkldeaaaGreatHkB
import Derived.Test.YtgfafidlkldeaaaGreatSecE
import Derived.Test.YtgfafidlkldeaaaGreatRowC
import Derived.Test.YtgfafidlkldeaaaGreatAu
set_option linter.unusedVariables false
set_option linter.unusedSimpArgs false
set_option maxHeartbeats 4000000
set_option maxRecDepth 4000
namespace Go.Proofs.YtgfafidlkldeaaaGreat
open Go.RowKit Tryz
section
variable {P : Program} {f : FuncId} {fn : Func} {c : Code} {args : Array Value} {R : Ending → World → Prop} {w : World}
theorem uS {p q x : Tmp} {ty Vw : TypeId} (h : fn.results = #[.cell p ty, .cell q Vw, .tmp x]) (tmps : Array Value) {g g' : Nat} {t t' : TypeId} {cs cs' : Array Value} {v : Value} {d d' : TypeDesc}
  (hp : tmps.getD p undef = .pointer (some ⟨g, 0, none⟩)) (hq : tmps.getD q undef = .pointer (some ⟨g', 0, none⟩)) (hx : tmps.getD x undef = v) (hg : ao w g t cs) (Vx : ao w g' t' cs') (hu : P.underlying ty = some d) (hd : (match d with | .struct _ | .array _ _ => true | _ => false) = true) (hi : (P.info? ty).map (·.size) = some cs.size)
  (Vy : P.underlying Vw = some d') (Vz : (match d' with | .struct _ | .array _ _ => true | _ => false) = true) (VA : (P.info? Vw).map (·.size) = some cs'.size) : (results fn tmps).run P w = .ok (.tuple #[.agg cs, .agg cs', v]) w := by
 have VB : tmps[p]?.getD undef = .pointer (some ⟨g, 0, none⟩) := by simpa using hp
 have VC : tmps[q]?.getD undef = .pointer (some ⟨g', 0, none⟩) := by simpa using hq
 have VD : tmps[x]?.getD undef = v := by simpa using hx
 simp [results, h, VB, VC, VD, asAddr, run_loadVar_row w g t ty cs _ d hg hu hd hi, run_loadVar_row w g' t' Vw cs' _ d' Vx Vy Vz VA]
theorem vm {ty Vw : TypeId} {s s' : Nat} {d d' : TypeDesc} (N : Nat) {u t x : Tmp} (hf : P.funcs[f]? = some fn) (hb : fn.body = some c) (hN : fn.ntmps = N) (hr : fn.results = #[.cell u ty, .cell t Vw, .tmp x]) (hu : P.underlying ty = some d) (hd : (match d with | .struct _ | .array _ _ => true | _ => false) = true) (hs : (P.info? ty).map (·.size) = some s)
  (Vx : P.underlying Vw = some d') (Vy : (match d' with | .struct _ | .array _ _ => true | _ => false) = true) (Vz : (P.info? Vw).map (·.size) = some s') (hsz : Nat.ble args.size N = true)
  (h : ∀ Q : Exit → Act → World → Prop, (∀ {N : Nat} {L : List (Nat × Value)} {w : World} {g g' : Nat} {e e' : TypeId} {cs cs' : Array Value} {v : Value}, look L u = some (.pointer (some ⟨g, 0, none⟩)) → look L t = some (.pointer (some ⟨g', 0, none⟩)) → look L x = some v → ao w g e cs → cs.size = s → ao w g' e' cs' → cs'.size = s' → R (.returned (.tuple #[.agg cs, .agg cs', v])) w → WQ Q .ret N L w) → WC P Q c N (fm 0 args.toList) w) : Calls P f args w R :=
 eC N hf hb hN hsz fun Q hQ => h Q fun {N L w g g' e e' cs cs' v} hv ht hx hg hz VA VB hR a ha => hQ (bodyPost_ret (v := .tuple #[.agg cs, .agg cs', v]) (uS hr _ (cA (ha.has _ _ hv)) (cA (ha.has _ _ ht)) (cA (ha.has _ _ hx)) hg VA hu hd (by rw [hz]; exact hs) Vx Vy (by rw [VB]; exact Vz)) ha.defers hR)
end
attribute [local irreducible] Y Ef WL WC WK WQ WM cE WN WF dc WJ gJ WR xF
open Wire Nd M20 Hk
def r7 (z : Nat) : List UInt8 := ((List.replicate 32 (0 : UInt8)).set 0 (UInt8.ofNat z)).set 1 (UInt8.ofNat (z / 256))
theorem uc (z : Nat) : (r7 z).length = 32 := by unfold r7; simp
theorem Co (z : Nat) (hz : z ≤ 60000) (w : World) :
  Ct 28 #[.int .i64 (z : Int)] w fun e w' => ∃ g, e = .returned (.slice (some ⟨g, 0, none⟩) 32 32) ∧ Bs w' (some ⟨g, 0, none⟩) 32 (r7 z) ∧ Ext w w' := by
 have E := Ext.refl w
 refine ai 15 func28 rfl rfl rfl rfl ?_
 intro _ hret
 refine aU ?_
 refine ag (du (n := 32) (z := .int .u8 0) (bytes := 1) rfl rfl Tn.u Kr rfl rfl rfl rfl Om Om) rfl ?_
 rintro _ _ ⟨g1, rfl, D1, Vw, ex⟩
 replace E := E.ext ex
 replace D1 := D1.congr (cs' := cT (List.replicate 32 0)) Kr
 refine au 8 ?_
 refine ak (bg rfl Tn.u Tn.u (show _ = ((UInt8.ofNat z).toNat : Int) from (IntKind.wrap_u8' _).trans (by rw [UInt8.toNat_ofNat']; omega))) ?_
 refine au 1 ?_
 refine ak (dr rfl rfl Om (show _ = ((z / 256 : Nat) : Int) from (IntWalk.i64_quo _ _ Om).trans Om)) ?_
 refine ak (bg rfl Tn.u Tn.u (show _ = ((UInt8.ofNat (z / 256)).toNat : Int) from (IntKind.wrap_u8' _).trans (by rw [UInt8.toNat_ofNat']; omega))) ?_
 refine ak (aw rfl rfl Tn.u Kr (j := 0) rfl Om) ?_
 refine ag (av (i := 0) rfl rfl rfl Kr D1 (by rw [aW]; decide)) rfl ?_
 rintro _ _ ⟨rfl, D2, cg⟩
 replace E := E.aE cg Vw; rw [fI] at D2
 refine ak (aw rfl rfl Tn.u Kr (j := 1) rfl Om) ?_
 refine ag (av (i := 1) rfl rfl rfl Kr D2 (by rw [aW, List.length_set]; decide)) rfl ?_
 rintro _ _ ⟨rfl, D3, cg⟩
 replace E := E.aE cg Vw; rw [fI] at D3
 refine aU ?_
 refine hret rfl ?_
 exact ⟨g1, rfl, bw D3 (uc z), E⟩
def Ln : ByteArray := ⟨#[105, 110, 105, 116]⟩
def Og : ByteArray := ⟨#[98, 111, 120]⟩
def Le : ByteArray := ⟨#[115, 105, 103, 110]⟩
def Jy : ByteArray := ⟨#[75, 101, 121, 80, 97, 99, 107, 97, 103, 101, 84, 66, 83]⟩
theorem rY : Jy.size ≤ 1000 := by decide
def DU (seed : Lb) : List UInt8 := Kdf.label seed Ln.data.toList [] 32
def Mx (seed : Lb) : List UInt8 := Kdf.label seed Og.data.toList [] 32
def zk (seed : Lb) : List UInt8 := Kdf.label seed Le.data.toList [] 32
def yP (ident seed : Lb) : bT := ⟨tv (Mx seed), Sg.tv (zk seed), ident, 1, [], []⟩
def pV (ident seed : Lb) : bT := (yP ident seed).put (Sg.sig (zk seed) (Sg.text Jo.data.toList (gC (yP ident seed) [] 0)))
def JJ (ident seed : Lb) : Pack := ⟨tv (DU seed), pV ident seed, List.replicate 64 0⟩
def De (ident seed : Lb) : Pack := ⟨tv (DU seed), pV ident seed, Sg.sig (zk seed) (Sg.text Jy.data.toList (ke (JJ ident seed)))⟩
theorem iC (seed : Lb) : (zk seed).length = 32 := dQ _ _ _ _
theorem zO {ident : Lb} (seed : Lb) (h1 : 1 ≤ ident.length) (h2 : ident.length ≤ 64) : aG (jV (yP ident seed)) :=
 ⟨dq _, Sg.dq _, (by show (List.replicate 64 (0 : UInt8)).length = 64; simp), h1, h2, (show 1 ≤ 1 by omega), (show 1 ≤ 3 by omega), .inl rfl⟩
theorem Ku {ident : Lb} (seed : Lb) (h1 : 1 ≤ ident.length) (h2 : ident.length ≤ 64) : gP (yP ident seed) (zk seed) [] 0 = (pV ident seed, 0) :=
 FW (zO seed h1 h2) (.inl rfl) (iC seed)
theorem mU {ident : Lb} (seed : Lb) (h1 : 1 ≤ ident.length) (h2 : ident.length ≤ 64) : aG (pV ident seed) := yS (zO seed h1 h2) (Sg.jP _ _)
theorem kW {ident : Lb} (seed : Lb) (h1 : 1 ≤ ident.length) (h2 : ident.length ≤ 64) : dt (JJ ident seed) :=
 ⟨dq _, ⟨mU seed h1 h2, rfl⟩, (by show (List.replicate 64 (0 : UInt8)).length = 64; simp)⟩
theorem Nw {ident : Lb} (seed : Lb) (h1 : 1 ≤ ident.length) (h2 : ident.length ≤ 64) : dt (De ident seed) :=
 ⟨dq _, ⟨mU seed h1 h2, rfl⟩, Sg.jP _ _⟩
theorem fM {p : Pack} (h : dt p) : p.Small := by
 obtain ⟨h1, ⟨⟨o1, o2, o3, o4, o5, o6, o7, o8⟩, hs⟩, h3⟩ := h
 refine ⟨by omega, by omega, ?_⟩
 refine ⟨by show p.leaf.box.length ≤ 200; omega, by show p.leaf.sign.length ≤ 200; omega, by show p.leaf.ident.length ≤ 200; omega, by show p.leaf.parent.length ≤ 200; omega, by show p.leaf.sig.length ≤ 200; omega, ?_⟩
 exact ⟨Nat.zero_le _, Nat.zero_le _, Nat.zero_le _⟩
theorem gU {w : World} {A : Oa} {n : Nat} {xs : Lb} {S : List Nat} (H : Bs w A n xs) (hS : ∀ g ∈ S, ∃ t cs, ao w g t cs ∧ cs.size < n) : Kp w.heap.size S (fun w => Bs w A n xs) w :=
 Kp.bs H fun _ g hg o => by obtain ⟨t, cs, B, h⟩ := hS g hg; exact H.Gd B h o
theorem fD {w : World} {n : Nat} : ∀ g ∈ ([] : List Nat), ∃ t cs, ao w g t cs ∧ cs.size < n := fun _ h => by cases h
theorem aT {w : World} {n a : Nat} {S : List Nat} {t : TypeId} {cs : Array Value} (B : ao w a t cs) (h : cs.size < n) (hS : ∀ g ∈ S, ∃ t cs, ao w g t cs ∧ cs.size < n) : ∀ g ∈ a :: S, ∃ t cs, ao w g t cs ∧ cs.size < n := fun g hg => by
 rcases List.mem_cons.1 hg with rfl | hg
 ·exact ⟨t, cs, B, h⟩
 ·exact hS g hg
theorem EZ {ident : Lb} (seed : Lb) (h2 : ident.length ≤ 64) : (yP ident seed).Fit :=
 ⟨by show (tv _).length ≤ _; rw [dq]; omega, by show (Sg.tv _).length ≤ _; rw [Sg.dq]; omega, by show ident.length ≤ _; omega, by show (0 : Nat) ≤ _; omega, by show (0 : Nat) ≤ _; omega⟩
theorem IU {ident : Lb} (seed : Lb) (h2 : ident.length ≤ 64) : (dD (yP ident seed)).length ≤ 80000 := by
 refine Nat.le_trans (vJ ?_) (show 900 ≤ 80000 by omega)
 exact ⟨by show (tv _).length ≤ _; rw [dq]; omega, by show (Sg.tv _).length ≤ _; rw [Sg.dq]; omega, by show ident.length ≤ _; omega, by show (0 : Nat) ≤ _; omega, by show (0 : Nat) ≤ _; omega, Nat.zero_le _, Nat.zero_le _, Nat.zero_le _⟩
def so (w : World) (cs : Array Value) (a b c : Lb) : Prop := ∃ h0 h1 h2 : Hd, cs = fN h0 h1 h2 ∧ kP w h0 a ∧ kP w h1 b ∧ kP w h2 c
theorem so.ext {w w' : World} {cs : Array Value} {a b c : Lb} (h : so w cs a b c) (e : Ext w w') : so w' cs a b c := by
 obtain ⟨h0, h1, h2, rfl, b0, b1, b2⟩ := h
 exact ⟨h0, h1, h2, rfl, Bs.ext b0 e, Bs.ext b1 e, Bs.ext b2 e⟩
theorem CC {A : Oa} {n c : Nat} {ident : Lb} {B : Oa} {d : Nat} {seed : Lb} (w : World) (HA : Bs w A n ident) (h1 : 1 ≤ n) (h2 : n ≤ 64) (HB : Bs w B 32 seed) :
  Ct 27 #[.slice A n c, .slice B 32 d] w fun e w' => ∃ cs ks, e = .returned (.tuple #[.agg cs, .agg ks, .int .u8 0]) ∧ dd w' cs (De ident seed) ∧ so w' ks (Eg (DU seed)) (Eg (Mx seed)) (zk seed) ∧ Ext w w' := by
 have hil := HA.1
 have F := aA.refl [] w
 have KI : Kp w.heap.size [] (fun w => Bs w A n ident) w := Kp.bs HA (by simp)
 have KB : Kp w.heap.size [] (fun w => Bs w B 32 seed) w := Kp.bs HB (by simp)
 refine vm (s := 8) (s' := 3) 83 func27 rfl rfl rfl underlying29 rfl Kr underlying51 rfl Kr rfl ?_
 intro _ hret
 refine aU ?_
 intro _ Vx B4 VE ex
 have VZ := ex.size
 replace F := F.grow ex VE
 replace KI := KI.grow ex VE
 replace KB := KB.grow ex VE
 refine aU ?_
 intro _ Vy B5 VD ex
 have VN : Vx < Vy := Nat.lt_of_lt_of_le B4.lt VD
 replace F := F.grow ex VD
 replace KI := KI.grow ex VD
 replace KB := KB.grow ex VD
 replace B4 := B4.grow ex VD
 refine aU ?_
 intro _ Vz B7 VC ex
 have VO : Vx < Vz := Nat.lt_of_lt_of_le B4.lt VC
 have VP : Vy < Vz := Nat.lt_of_lt_of_le B5.lt VC
 replace F := F.grow ex VC
 replace KI := KI.grow ex VC
 replace KB := KB.grow ex VC
 replace B4 := B4.grow ex VC
 replace B5 := B5.grow ex VC
 refine aU ?_
 intro _ VA B8 VB ex
 have VQ : Vx < VA := Nat.lt_of_lt_of_le B4.lt VB
 have VR : Vy < VA := Nat.lt_of_lt_of_le B5.lt VB
 have VS : Vz < VA := Nat.lt_of_lt_of_le B7.lt VB
 replace F := F.grow ex VB
 replace KI := KI.grow ex VB
 replace KB := KB.grow ex VB
 replace B4 := B4.grow ex VB
 replace B5 := B5.grow ex VB
 replace B7 := B7.grow ex VB
 refine aU ?_
 replace B4 := B4.congr (cs' := fv an an an an 0 an an an) rfl
 replace B5 := B5.congr (cs' := fN an an an) rfl
 replace B7 := B7.congr (cs' := fv an an an an 0 an an an) rfl
 replace B8 := B8.congr (cs' := fN an an an) rfl
 refine aB func67 rfl (ia B 32 d Ln seed _ KB.out Om (by decide)) ?_
 rintro e _ ⟨A1, c1, rfl, H1, ex⟩
 obtain ⟨F,KI,KB,B4,B5,B7,B8⟩ := iQ ex F KI KB B4 B5 B7 B8
 refine aU ?_
 refine aB func66 rfl (sa A1 32 c1 (DU seed) _ H1 Om) ?_
 rintro e _ ⟨Aa, ca, Ab, cb, rfl, Ha, Hb, _, ex⟩
 obtain ⟨F,KI,KB,B4,B5,B7,B8⟩ := iQ ex F KI KB B4 B5 B7 B8
 have Ja := gU (S := [VA, Vz, Vy, Vx]) Ha (aT B8 (show (3 : Nat) < 32 by omega) (aT B7 (show (8 : Nat) < 32 by omega) (aT B5 (show (3 : Nat) < 32 by omega) (aT B4 (show (8 : Nat) < 32 by omega) fD)))); have Jb := gU (S := [VA, Vz, Vy, Vx]) Hb (aT B8 (show (3 : Nat) < 32 by omega) (aT B7 (show (8 : Nat) < 32 by omega) (aT B5 (show (3 : Nat) < 32 by omega) (aT B4 (show (8 : Nat) < 32 by omega) fD))))
 refine aU ?_
 intro _ D cg
 have ex := aA.one cg
 clear cg
 obtain ⟨F,KI,KB,B4,B5,B7,Ja,Jb⟩ := Ig ex F KI KB B4 B5 B7 Ja Jb
 replace B8 := D; clear D
 replace B8 := B8.congr (cs' := fN ⟨Aa, 32, ca⟩ an an) rfl
 refine aU ?_
 intro _ D cg
 have ex := aA.one cg
 clear cg
 obtain ⟨F,KI,KB,B4,B5,B8,Ja,Jb⟩ := Ig ex F KI KB B4 B5 B8 Ja Jb
 replace B7 := D; clear D
 replace B7 := B7.congr (cs' := fv ⟨Ab, 32, cb⟩ an an an 0 an an an) rfl
 refine aU ?_
 refine aB func67 rfl (ia B 32 d Og seed _ KB.out Om (by decide)) ?_
 rintro e _ ⟨A3, c3, rfl, H3, ex⟩
 obtain ⟨F,KI,KB,B4,B5,B7,B8,Ja,Jb⟩ := rA ex F KI KB B4 B5 B7 B8 Ja Jb
 refine aU ?_
 refine aB func66 rfl (sa A3 32 c3 (Mx seed) _ H3 Om) ?_
 rintro e _ ⟨Ac, cc, Ad, cd, rfl, Hc, Hd, _, ex⟩
 obtain ⟨F,KI,KB,B4,B5,B7,B8,Ja,Jb⟩ := rA ex F KI KB B4 B5 B7 B8 Ja Jb
 have Jc := gU (S := [VA, Vz, Vy, Vx]) Hc (aT B8 (show (3 : Nat) < 32 by omega) (aT B7 (show (8 : Nat) < 32 by omega) (aT B5 (show (3 : Nat) < 32 by omega) (aT B4 (show (8 : Nat) < 32 by omega) fD)))); have Jd := gU (S := [VA, Vz, Vy, Vx]) Hd (aT B8 (show (3 : Nat) < 32 by omega) (aT B7 (show (8 : Nat) < 32 by omega) (aT B5 (show (3 : Nat) < 32 by omega) (aT B4 (show (8 : Nat) < 32 by omega) fD))))
 refine aU ?_
 intro _ D cg
 have ex := aA.one cg
 clear cg
 obtain ⟨F,KI,KB,B4,B5,B7,Ja,Jb,Jc⟩ := kH ex F KI KB B4 B5 B7 Ja Jb Jc
 replace Jd := Jd.bo ex
 replace B8 := D; clear D
 replace B8 := B8.congr (cs' := fN ⟨Aa, 32, ca⟩ ⟨Ac, 32, cc⟩ an) rfl
 refine aU ?_
 intro _ D cg
 have ex := aA.one cg
 clear cg
 obtain ⟨F,KI,KB,B4,B5,B8,Ja,Jb,Jc⟩ := kH ex F KI KB B4 B5 B8 Ja Jb Jc
 replace Jd := Jd.bo ex
 replace B7 := D; clear D
 replace B7 := B7.congr (cs' := fv ⟨Ab, 32, cb⟩ ⟨Ad, 32, cd⟩ an an 0 an an an) rfl
 refine aU ?_
 refine aB func67 rfl (ia B 32 d Le seed _ KB.out Om (by decide)) ?_
 rintro e _ ⟨Ae, ce, rfl, He, ex⟩
 obtain ⟨F,KI,B4,B5,B7,B8,Ja,Jb,Jc⟩ := rA ex F KI B4 B5 B7 B8 Ja Jb Jc
 replace Jd := Jd.ext ex
 have Je : Kp _ [VA, Vz, Vy, Vx] (fun w => Bs w Ae 32 (zk seed)) _ := gU (S := [VA, Vz, Vy, Vx]) He (aT B8 (show (3 : Nat) < 32 by omega) (aT B7 (show (8 : Nat) < 32 by omega) (aT B5 (show (3 : Nat) < 32 by omega) (aT B4 (show (8 : Nat) < 32 by omega) fD))))
 refine aU ?_
 intro _ D cg
 have ex := aA.one cg
 clear cg
 obtain ⟨F,KI,B4,B5,B7,Ja,Jb,Jc,Jd⟩ := kH ex F KI B4 B5 B7 Ja Jb Jc Jd
 replace Je := Je.bo ex
 replace B8 := D; clear D
 replace B8 := B8.congr (cs' := fN ⟨Aa, 32, ca⟩ ⟨Ac, 32, cc⟩ ⟨Ae, 32, ce⟩) rfl
 refine aU ?_
 refine aB func29 rfl (Fk (c := ce) Je.out (iC seed)) ?_
 rintro e _ ⟨Ag, cg, rfl, Hg, _, ex⟩
 obtain ⟨F,KI,B4,B5,B7,B8,Ja,Jb,Jc⟩ := rA ex F KI B4 B5 B7 B8 Ja Jb Jc
 obtain ⟨Jd,Je⟩ := ba ex Jd Je
 have Jg := gU (S := [VA, Vz, Vy, Vx]) Hg (aT B8 (show (3 : Nat) < 32 by omega) (aT B7 (show (8 : Nat) < 32 by omega) (aT B5 (show (3 : Nat) < 32 by omega) (aT B4 (show (8 : Nat) < 32 by omega) fD))))
 refine aU ?_
 intro _ D cg
 have ex := aA.one cg
 clear cg
 obtain ⟨F,KI,B4,B5,B8,Ja,Jb,Jc,Jd⟩ := kH ex F KI B4 B5 B8 Ja Jb Jc Jd
 obtain ⟨Je,Jg⟩ := gA ex Je Jg
 replace B7 := D; clear D
 replace B7 := B7.congr (cs' := fv ⟨Ab, 32, cb⟩ ⟨Ad, 32, cd⟩ ⟨Ag, 32, cg⟩ an 0 an an an) rfl
 refine aU ?_
 intro _ D cg
 have ex := aA.one cg
 clear cg
 obtain ⟨F,KI,B4,B5,B8,Ja,Jb,Jc,Jd⟩ := kH ex F KI B4 B5 B8 Ja Jb Jc Jd
 obtain ⟨Je,Jg⟩ := gA ex Je Jg
 replace B7 := D; clear D
 replace B7 := B7.congr (cs' := fv ⟨Ab, 32, cb⟩ ⟨Ad, 32, cd⟩ ⟨Ag, 32, cg⟩ ⟨A, n, c⟩ 0 an an an) rfl
 refine aU ?_
 intro _ D cg
 have ex := aA.one cg
 clear cg
 obtain ⟨F,KI,B4,B5,B8,Ja,Jb,Jc,Jd⟩ := kH ex F KI B4 B5 B8 Ja Jb Jc Jd
 obtain ⟨Je,Jg⟩ := gA ex Je Jg
 replace B7 := D; clear D
 replace B7 := B7.congr (cs' := fv ⟨Ab, 32, cb⟩ ⟨Ad, 32, cd⟩ ⟨Ag, 32, cg⟩ ⟨A, n, c⟩ 1 an an an) rfl
 refine aU ?_
 have HL : dO _ _ (yP ident seed) := ⟨⟨Ad, 32, cd⟩, ⟨Ag, 32, cg⟩, ⟨A, n, c⟩, an, an, rfl, (by show 1 < 256; omega), Jd.out, Jg.out, KI.out, Bs.nil _ _, Bs.nil _ _⟩
 have m7 := B7.lt; have m8 := B8.lt; have m4 := B4.lt; have m5 := B5.lt
 refine aB func68 rfl (uC (z := 0) _ HL (EZ seed Om) (IU seed Om) Je.out (show 32 ≤ 100 by omega) (Bs.nil _ none) (Nat.zero_le 100) (Ku seed Om Om)) ?_
 rintro e w7 ⟨_, rfl, LA, LF, ex⟩
 obtain ⟨F,B4,B5,B7,B8,Ja,Jb,Jc,Je⟩ := rA ex F B4 B5 B7 B8 Ja Jb Jc Je
 obtain ⟨i0, i1, i2, i4, i5, rfl, _, ⟨l0, _⟩, ⟨l1, _⟩, ⟨l2, _⟩, ⟨l4, _⟩, ⟨l5, _⟩⟩ := LA; have n0 : i0.n = 32 := (by rw [← l0.1]; exact (mU seed Om Om).1); have n1 : i1.n = 32 := (by rw [← l1.1]; exact (mU seed Om Om).2.1); have n5 : i5.n = 64 := (by rw [← l5.1]; exact (mU seed Om Om).2.2.1); have n4 : i4.n = 0 := (by rw [← l4.1]; rfl); have L0 := gU (S := [VA, Vz, Vy, Vx]) l0 (by rw [n0]; exact (aT B8 (show (3 : Nat) < 32 by omega) (aT B7 (show (8 : Nat) < 32 by omega) (aT B5 (show (3 : Nat) < 32 by omega) (aT B4 (show (8 : Nat) < 32 by omega) fD))))); have L1 := gU (S := [VA, Vz, Vy, Vx]) l1 (by rw [n1]; exact (aT B8 (show (3 : Nat) < 32 by omega) (aT B7 (show (8 : Nat) < 32 by omega) (aT B5 (show (3 : Nat) < 32 by omega) (aT B4 (show (8 : Nat) < 32 by omega) fD))))); have L5 := gU (S := [VA, Vz, Vy, Vx]) l5 (by rw [n5]; exact (aT B8 (show (3 : Nat) < 64 by omega) (aT B7 (show (8 : Nat) < 64 by omega) (aT B5 (show (3 : Nat) < 64 by omega) (aT B4 (show (8 : Nat) < 64 by omega) fD))))); have L4 : Kp w7.heap.size [VA, Vz, Vy, Vx] (fun w => kP w i4 (pV ident seed).parent) w7 := Kp.bs l4 (fun h => by omega); have L2 := (LF _ _ _ rfl).kp (S := [VA, Vz, Vy, Vx]) So; clear LF l0 l1 l2 l4 l5
 refine aU ?_
 intro _ VK B9 Vw ex
 have VT : Vx < VK := Nat.lt_of_lt_of_le B4.lt Vw
 have VU : Vy < VK := Nat.lt_of_lt_of_le B5.lt Vw
 have VV : Vz < VK := Nat.lt_of_lt_of_le B7.lt Vw
 have VW : VA < VK := Nat.lt_of_lt_of_le B8.lt Vw
 replace F := F.grow ex Vw
 replace B4 := B4.grow ex Vw
 replace B5 := B5.grow ex Vw
 replace B7 := B7.grow ex Vw
 replace B8 := B8.grow ex Vw
 replace Ja := Ja.grow ex Vw
 replace Jb := Jb.grow ex Vw
 replace Jc := Jc.grow ex Vw
 replace Je := Je.grow ex Vw
 replace L0 := L0.grow ex Vw
 replace L1 := L1.grow ex Vw
 replace L2 := L2.grow ex Vw
 replace L4 := L4.grow ex Vw
 replace L5 := L5.grow ex Vw
 refine aU ?_
 intro _ D cg
 have ex := aA.one cg
 clear cg
 obtain ⟨F,B4,B5,B7,B8,Ja,Jb,Jc,Je⟩ := kH ex F B4 B5 B7 B8 Ja Jb Jc Je
 obtain ⟨L0,L1,L2,L4,L5⟩ := jS ex L0 L1 L2 L4 L5
 replace B9 := D; clear D
 refine aU ?_
 refine bS [(3, [Vz]), (5, [Vz])] Kr 6 rfl ?_; intro VX ex VY
 obtain ⟨F,B4,B5,B7,B8,Ja,Jb,Jc,Je⟩ := rA ex F B4 B5 B7 B8 Ja Jb Jc Je
 obtain ⟨L0,L1,L2,L4,L5,B9⟩ := iP ex L0 L1 L2 L4 L5 B9
 refine fO [(0, []), (2, [])] ?_
 refine aU ?_
 refine MT 1 3 Kr ?_ ?_
 ·skip
  have q7 := B7.lt
  have q8 := B8.lt
  have q4 := B4.lt
  have q5 := B5.lt
  refine cZ rfl (du (n := 64) (z := .int .u8 0) (bytes := 1) rfl rfl underlying23 Kr rfl rfl rfl rfl Om Om) rfl ?_
  rintro _ wm ⟨gm, rfl, Dm, hgm, ex⟩
  refine ⟨aA.of ex _, ?_⟩
  obtain ⟨F,B4,B5,B7,B8,Ja,Jb,Jc,Je⟩ := rA ex F B4 B5 B7 B8 Ja Jb Jc Je
  obtain ⟨L0,L1,L2,L4,L5⟩ := er ex L0 L1 L2 L4 L5
  have Jm : Kp wm.heap.size [VA, Vz, Vy, Vx] (fun w => Bs w (some ⟨gm, 0, none⟩) 64 (List.replicate 64 0)) wm := Kp.bs (tI Dm (by rfl)) (fun _ g hg o e => by injection e with e; injection e with e _ _; simp at hg; omega)
  refine cy 3 Kr ?_; refine cZ rfl (aL (o := 1) rfl rfl Kr B7 Nb (aS rfl)) rfl ?_
  rintro _ VF ⟨rfl, D, cg⟩
  have ex := aA.one cg
  clear cg
  refine ⟨ex, ?_⟩
  obtain ⟨F,B4,B5,B8,Ja,Jb,Jc,Je,L0⟩ := kH ex F B4 B5 B8 Ja Jb Jc Je L0
  obtain ⟨L1,L2,L4,L5,Jm⟩ := jS ex L1 L2 L4 L5 Jm
  replace B7 := D; clear D
  refine fO [(4, [])] ?_
  refine aU ?_
  refine cy 5 Kr ?_; refine cZ rfl (av (i := 7) rfl rfl rfl Kr B7 Nb) rfl ?_
  rintro _ VG ⟨rfl, D, cg⟩
  have ex := aA.one cg
  clear cg
  refine ⟨ex, ?_⟩
  obtain ⟨F,B4,B5,B8,Ja,Jb,Jc,Je,L0⟩ := kH ex F B4 B5 B8 Ja Jb Jc Je L0
  obtain ⟨L1,L2,L4,L5,Jm⟩ := jS ex L1 L2 L4 L5 Jm
  replace B7 := D; clear D
  refine cF Kr ?_
  replace B7 := B7.congr (cs' := fv ⟨Ab, 32, cb⟩ i0 i1 i2 (pV ident seed).src i4 i5 ⟨some ⟨gm, 0, none⟩, 64, 64⟩) rfl
  refine aU ?_
  have HP : dd _ _ (JJ ident seed) := ⟨⟨Ab, 32, cb⟩, i0, i1, i2, i4, i5, ⟨some ⟨gm, 0, none⟩, 64, 64⟩, rfl, (by show 1 < 256; omega), Jb.out, L0.out, L1.out, L2.out, L4.out, L5.out, Jm.out⟩
  refine aB func69 rfl (jY _ HP (fM (kW seed Om Om)).fit) ?_
  rintro e wt ⟨At, kt, ct, zt, rfl, Tt, hkt, ex⟩
  obtain ⟨F,B4,B5,B7,B8,Ja,Jb,Jc,Je⟩ := rA ex F B4 B5 B7 B8 Ja Jb Jc Je
  obtain ⟨L0,L1,L2,L4,L5⟩ := er ex L0 L1 L2 L4 L5
  have Ht := (Tt.1 (kW seed Om Om)).2; have hlt := Ht.1; have hls := kB (fM (kW (ident := ident) seed Om Om))
  refine aU ?_
  refine aB func63 rfl (AX (s := Jy) (c := ce) (d := ct) Je.out Ht (iC seed) rY Om) ?_
  rintro e wl ⟨Al, cl, rfl, Hl, hcl, ex⟩
  obtain ⟨F,B4,B5,B7,B8,Ja,Jb,Jc,Je⟩ := rA ex F B4 B5 B7 B8 Ja Jb Jc Je
  obtain ⟨L0,L1,L2,L4,L5⟩ := er ex L0 L1 L2 L4 L5
  have Jl := gU (S := [VA, Vz, Vy, Vx]) Hl (aT B8 (show (3 : Nat) < 64 by omega) (aT B7 (show (8 : Nat) < 64 by omega) (aT B5 (show (3 : Nat) < 64 by omega) (aT B4 (show (8 : Nat) < 64 by omega) fD))))
  refine aU ?_
  intro VH D cg
  have ex := aA.one cg
  clear cg
  obtain ⟨F,B4,B5,B8,Ja,Jb,Jc,Je,L0⟩ := kH ex F B4 B5 B8 Ja Jb Jc Je L0
  obtain ⟨L1,L2,L4,L5,Jl⟩ := jS ex L1 L2 L4 L5 Jl
  replace B7 := D; clear D
  replace B7 := B7.congr (cs' := fv ⟨Ab, 32, cb⟩ i0 i1 i2 (pV ident seed).src i4 i5 ⟨Al, 64, cl⟩) rfl
  refine aU ?_
  refine bS [(2, [Vx]), (3, [Vy])] Kr 5 rfl ?_; intro VL ex VM
  obtain ⟨F,B4,B5,B7,B8,Ja,Jb,Jc,Je⟩ := rA ex F B4 B5 B7 B8 Ja Jb Jc Je
  obtain ⟨L0,L1,L2,L4,L5,Jl⟩ := iP ex L0 L1 L2 L4 L5 Jl
  refine fO [(0, []), (1, [2])] ?_
  refine aU ?_
  refine cy 2 Kr ?_; refine cZ rfl (aL (o := 0) rfl rfl Kr B4 Nb (aS rfl)) rfl ?_
  rintro _ VI ⟨rfl, D, cg⟩
  have ex := aA.one cg
  clear cg
  refine ⟨ex, ?_⟩
  obtain ⟨F,B5,Ja,Jb,Jc,Je,L0,L1,L2⟩ := kH ex F B5 Ja Jb Jc Je L0 L1 L2
  obtain ⟨L4,L5,Jl⟩ := mv ex L4 L5 Jl
  replace B4 := D; clear D
  refine cy 3 Kr ?_; refine cZ rfl (aL (o := 0) rfl rfl Kr B5 Nb (aS rfl)) rfl ?_
  rintro _ VJ ⟨rfl, D, cg⟩
  have ex := aA.one cg
  clear cg
  refine ⟨ex, ?_⟩
  obtain ⟨F,B4,Ja,Jb,Jc,Je,L0,L1,L2⟩ := kH ex F B4 Ja Jb Jc Je L0 L1 L2
  obtain ⟨L4,L5,Jl⟩ := mv ex L4 L5 Jl
  replace B5 := D; clear D
  refine fO [(4, [])] ?_
  refine aU ?_
  refine cF Kr ?_
  replace B4 := B4.congr (cs' := fv ⟨Ab, 32, cb⟩ i0 i1 i2 (pV ident seed).src i4 i5 ⟨Al, 64, cl⟩) rfl
  replace B5 := B5.congr (cs' := fN ⟨Aa, 32, ca⟩ ⟨Ac, 32, cc⟩ ⟨Ae, 32, ce⟩) rfl
  refine aU ?_
  refine hret rfl rfl rfl B4 rfl B5 rfl ?_
  exact ⟨_, _, rfl, ⟨⟨Ab, 32, cb⟩, i0, i1, i2, i4, i5, ⟨Al, 64, cl⟩, rfl, (by show 1 < 256; omega), Jb.out, L0.out, L1.out, L2.out, L4.out, L5.out, Jl.out⟩, ⟨⟨Aa, 32, ca⟩, ⟨Ac, 32, cc⟩, ⟨Ae, 32, ce⟩, rfl, Ja.out, Jc.out, Je.out⟩, F.aD So⟩
 ·skip
  refine cZ rfl (aL (o := 1) rfl rfl Kr B7 Nb (aS rfl)) rfl ?_
  rintro _ VF ⟨rfl, D, cg⟩
  have ex := aA.one cg
  clear cg
  refine ⟨ex, ?_⟩
  obtain ⟨F,B4,B5,B8,Ja,Jb,Jc,Je,L0⟩ := kH ex F B4 B5 B8 Ja Jb Jc Je L0
  obtain ⟨L1,L2,L4,L5⟩ := dj ex L1 L2 L4 L5
  replace B7 := D; clear D
  have q7 := B7.lt
  have q8 := B8.lt
  have q4 := B4.lt
  have q5 := B5.lt
  refine cy 1 Kr ?_; refine cZ rfl (du (n := 64) (z := .int .u8 0) (bytes := 1) rfl rfl Tn.u Kr rfl rfl rfl rfl Om Om) rfl ?_
  rintro _ wm ⟨gm, rfl, Dm, hgm, ex⟩
  refine ⟨aA.of ex _, ?_⟩
  obtain ⟨F,B4,B5,B7,B8,Ja,Jb,Jc,Je⟩ := rA ex F B4 B5 B7 B8 Ja Jb Jc Je
  obtain ⟨L0,L1,L2,L4,L5⟩ := er ex L0 L1 L2 L4 L5
  have Jm : Kp wm.heap.size [VA, Vz, Vy, Vx] (fun w => Bs w (some ⟨gm, 0, none⟩) 64 (List.replicate 64 0)) wm := Kp.bs (tI Dm (by rfl)) (fun _ g hg o e => by injection e with e; injection e with e _ _; simp at hg; omega)
  refine fO [(4, [])] ?_
  refine aU ?_
  refine cy 5 Kr ?_; refine cZ rfl (av (i := 7) rfl rfl rfl Kr B7 Nb) rfl ?_
  rintro _ VG ⟨rfl, D, cg⟩
  have ex := aA.one cg
  clear cg
  refine ⟨ex, ?_⟩
  obtain ⟨F,B4,B5,B8,Ja,Jb,Jc,Je,L0⟩ := kH ex F B4 B5 B8 Ja Jb Jc Je L0
  obtain ⟨L1,L2,L4,L5,Jm⟩ := jS ex L1 L2 L4 L5 Jm
  replace B7 := D; clear D
  refine cF Kr ?_
  replace B7 := B7.congr (cs' := fv ⟨Ab, 32, cb⟩ i0 i1 i2 (pV ident seed).src i4 i5 ⟨some ⟨gm, 0, none⟩, 64, 64⟩) rfl
  refine aU ?_
  have HP : dd _ _ (JJ ident seed) := ⟨⟨Ab, 32, cb⟩, i0, i1, i2, i4, i5, ⟨some ⟨gm, 0, none⟩, 64, 64⟩, rfl, (by show 1 < 256; omega), Jb.out, L0.out, L1.out, L2.out, L4.out, L5.out, Jm.out⟩
  refine aB func69 rfl (jY _ HP (fM (kW seed Om Om)).fit) ?_
  rintro e wt ⟨At, kt, ct, zt, rfl, Tt, hkt, ex⟩
  obtain ⟨F,B4,B5,B7,B8,Ja,Jb,Jc,Je⟩ := rA ex F B4 B5 B7 B8 Ja Jb Jc Je
  obtain ⟨L0,L1,L2,L4,L5⟩ := er ex L0 L1 L2 L4 L5
  have Ht := (Tt.1 (kW seed Om Om)).2; have hlt := Ht.1; have hls := kB (fM (kW (ident := ident) seed Om Om))
  refine aU ?_
  refine aB func63 rfl (AX (s := Jy) (c := ce) (d := ct) Je.out Ht (iC seed) rY Om) ?_
  rintro e wl ⟨Al, cl, rfl, Hl, hcl, ex⟩
  obtain ⟨F,B4,B5,B7,B8,Ja,Jb,Jc,Je⟩ := rA ex F B4 B5 B7 B8 Ja Jb Jc Je
  obtain ⟨L0,L1,L2,L4,L5⟩ := er ex L0 L1 L2 L4 L5
  have Jl := gU (S := [VA, Vz, Vy, Vx]) Hl (aT B8 (show (3 : Nat) < 64 by omega) (aT B7 (show (8 : Nat) < 64 by omega) (aT B5 (show (3 : Nat) < 64 by omega) (aT B4 (show (8 : Nat) < 64 by omega) fD))))
  refine aU ?_
  intro VH D cg
  have ex := aA.one cg
  clear cg
  obtain ⟨F,B4,B5,B8,Ja,Jb,Jc,Je,L0⟩ := kH ex F B4 B5 B8 Ja Jb Jc Je L0
  obtain ⟨L1,L2,L4,L5,Jl⟩ := jS ex L1 L2 L4 L5 Jl
  replace B7 := D; clear D
  replace B7 := B7.congr (cs' := fv ⟨Ab, 32, cb⟩ i0 i1 i2 (pV ident seed).src i4 i5 ⟨Al, 64, cl⟩) rfl
  refine aU ?_
  refine bS [(2, [Vx]), (3, [Vy])] Kr 5 rfl ?_; intro VL ex VM
  obtain ⟨F,B4,B5,B7,B8,Ja,Jb,Jc,Je⟩ := rA ex F B4 B5 B7 B8 Ja Jb Jc Je
  obtain ⟨L0,L1,L2,L4,L5,Jl⟩ := iP ex L0 L1 L2 L4 L5 Jl
  refine fO [(0, []), (1, [2])] ?_
  refine aU ?_
  refine cy 2 Kr ?_; refine cZ rfl (aL (o := 0) rfl rfl Kr B4 Nb (aS rfl)) rfl ?_
  rintro _ VI ⟨rfl, D, cg⟩
  have ex := aA.one cg
  clear cg
  refine ⟨ex, ?_⟩
  obtain ⟨F,B5,Ja,Jb,Jc,Je,L0,L1,L2⟩ := kH ex F B5 Ja Jb Jc Je L0 L1 L2
  obtain ⟨L4,L5,Jl⟩ := mv ex L4 L5 Jl
  replace B4 := D; clear D
  refine cy 3 Kr ?_; refine cZ rfl (aL (o := 0) rfl rfl Kr B5 Nb (aS rfl)) rfl ?_
  rintro _ VJ ⟨rfl, D, cg⟩
  have ex := aA.one cg
  clear cg
  refine ⟨ex, ?_⟩
  obtain ⟨F,B4,Ja,Jb,Jc,Je,L0,L1,L2⟩ := kH ex F B4 Ja Jb Jc Je L0 L1 L2
  obtain ⟨L4,L5,Jl⟩ := mv ex L4 L5 Jl
  replace B5 := D; clear D
  refine fO [(4, [])] ?_
  refine aU ?_
  refine cF Kr ?_
  replace B4 := B4.congr (cs' := fv ⟨Ab, 32, cb⟩ i0 i1 i2 (pV ident seed).src i4 i5 ⟨Al, 64, cl⟩) rfl
  replace B5 := B5.congr (cs' := fN ⟨Aa, 32, ca⟩ ⟨Ac, 32, cc⟩ ⟨Ae, 32, ce⟩) rfl
  refine aU ?_
  refine hret rfl rfl rfl B4 rfl B5 rfl ?_
  exact ⟨_, _, rfl, ⟨⟨Ab, 32, cb⟩, i0, i1, i2, i4, i5, ⟨Al, 64, cl⟩, rfl, (by show 1 < 256; omega), Jb.out, L0.out, L1.out, L2.out, L4.out, L5.out, Jl.out⟩, ⟨⟨Aa, 32, ca⟩, ⟨Ac, 32, cc⟩, ⟨Ae, 32, ce⟩, rfl, Ja.out, Jc.out, Je.out⟩, F.aD So⟩
end Go.Proofs.YtgfafidlkldeaaaGreat
