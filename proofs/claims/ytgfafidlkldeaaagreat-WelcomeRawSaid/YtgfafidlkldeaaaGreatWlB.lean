/- What a seed makes: props.Package. No conditions: contracts of the program's functions. -/
import Derived.Test.YtgfafidlkldeaaaGreatMuC
import Derived.Test.YtgfafidlkldeaaaGreatHkA
import Derived.Test.YtgfafidlkldeaaaGreatNdP
import Derived.Test.YtgfafidlkldeaaaGreatHkB
import Derived.Test.YtgfafidlkldeaaaGreatSecE
import Derived.Test.YtgfafidlkldeaaaGreatRowC
import Derived.Test.YtgfafidlkldeaaaGreatAu
set_option maxHeartbeats 4000000
set_option maxRecDepth 4000
namespace Go.Proofs.YtgfafidlkldeaaaGreat
open Go.RowKit Tryz
section
variable {P : Program} {f : FuncId} {fn : Func} {c : Code} {args : Array Value} {R : Ending → World → Prop} {w : World}
theorem xw {p q x : Tmp} {ty Vw : TypeId} (h : fn.results = #[.cell p ty, .cell q Vw, .tmp x]) (tmps : Array Value) {g g' : Nat} {t t' : TypeId} {cs cs' : Array Value} {v : Value} {d d' : TypeDesc}
  (hp : tmps.getD p undef = .pointer (some ⟨g, 0, none⟩)) (hq : tmps.getD q undef = .pointer (some ⟨g', 0, none⟩)) (hx : tmps.getD x undef = v) (hg : ao w g t cs) (Vx : ao w g' t' cs') (hu : P.underlying ty = some d) (hd : (match d with | .struct _ | .array _ _ => true | _ => false) = true) (hi : (P.info? ty).map (·.size) = some cs.size)
  (Vy : P.underlying Vw = some d') (Vz : (match d' with | .struct _ | .array _ _ => true | _ => false) = true) (VA : (P.info? Vw).map (·.size) = some cs'.size) : (results fn tmps).run P w = .ok (.tuple #[.agg cs, .agg cs', v]) w := by
 have VB : tmps[p]?.getD undef = .pointer (some ⟨g, 0, none⟩) := by simpa using hp
 have VC : tmps[q]?.getD undef = .pointer (some ⟨g', 0, none⟩) := by simpa using hq
 have VD : tmps[x]?.getD undef = v := by simpa using hx
 simp [results, h, VB, VC, VD, asAddr, run_loadVar_row w g t ty cs _ d hg hu hd hi, run_loadVar_row w g' t' Vw cs' _ d' Vx Vy Vz VA]
theorem wS {ty Vw : TypeId} {s s' : Nat} {d d' : TypeDesc} (N : Nat) {u t x : Tmp} (hf : P.funcs[f]? = some fn) (hb : fn.body = some c) (hN : fn.ntmps = N) (hr : fn.results = #[.cell u ty, .cell t Vw, .tmp x]) (hu : P.underlying ty = some d) (hd : (match d with | .struct _ | .array _ _ => true | _ => false) = true) (hs : (P.info? ty).map (·.size) = some s)
  (Vx : P.underlying Vw = some d') (Vy : (match d' with | .struct _ | .array _ _ => true | _ => false) = true) (Vz : (P.info? Vw).map (·.size) = some s') (hsz : Nat.ble args.size N = true)
  (h : ∀ Q : Exit → Act → World → Prop, (∀ {N : Nat} {L : List (Nat × Value)} {w : World} {g g' : Nat} {e e' : TypeId} {cs cs' : Array Value} {v : Value}, look L u = some (.pointer (some ⟨g, 0, none⟩)) → look L t = some (.pointer (some ⟨g', 0, none⟩)) → look L x = some v → ao w g e cs → cs.size = s → ao w g' e' cs' → cs'.size = s' → R (.returned (.tuple #[.agg cs, .agg cs', v])) w → WQ Q .ret N L w) → WC P Q c N (fp 0 args.toList) w) : Calls P f args w R :=
 eA N hf hb hN hsz fun Q hQ => h Q fun {N L w g g' e e' cs cs' v} hv ht hx hg hz VA VB hR a ha => hQ (bodyPost_ret (v := .tuple #[.agg cs, .agg cs', v]) (xw hr _ (cA (ha.has _ _ hv)) (cA (ha.has _ _ ht)) (cA (ha.has _ _ hx)) hg VA hu hd (by rw [hz]; exact hs) Vx Vy (by rw [VB]; exact Vz)) ha.defers hR)
end
attribute [local irreducible] Y Ef WL WC WK WQ WM cE WN WF db WJ gO WR xG
open Wire Nd M20 Hk
def sH (z : Nat) : List UInt8 := ((List.replicate 32 (0 : UInt8)).set 0 (UInt8.ofNat z)).set 1 (UInt8.ofNat (z / 256))
theorem tS (z : Nat) : (sH z).length = 32 := by unfold sH; simp
theorem CA (z : Nat) (hz : z ≤ 60000) (w : World) :
  Ct 28 #[.int .i64 (z : Int)] w fun e w' => ∃ g, e = .returned (.slice (some ⟨g, 0, none⟩) 32 32) ∧ Bs w' (some ⟨g, 0, none⟩) 32 (sH z) ∧ Ext w w' := by
 have E := Ext.refl w
 refine ai 15 func28 rfl rfl rfl rfl ?_
 intro _ hret
 refine aU ?_
 refine ag (du (n := 32) (z := .int .u8 0) (bytes := 1) rfl rfl Tn.u Kr rfl rfl rfl rfl Om Om) rfl ?_
 rintro _ _ ⟨g1, rfl, D1, Vw, ex⟩
 replace E := E.ext ex
 replace D1 := D1.congr (cs' := cU (List.replicate 32 0)) Kr
 refine au 8 ?_
 refine ak (bg rfl Tn.u Tn.u (show _ = ((UInt8.ofNat z).toNat : Int) from (IntKind.wrap_u8' _).trans (by rw [UInt8.toNat_ofNat']; omega))) ?_
 refine au 1 ?_
 refine ak (dr rfl rfl Om (show _ = ((z / 256 : Nat) : Int) from (IntWalk.i64_quo _ _ Om).trans Om)) ?_
 refine ak (bg rfl Tn.u Tn.u (show _ = ((UInt8.ofNat (z / 256)).toNat : Int) from (IntKind.wrap_u8' _).trans (by rw [UInt8.toNat_ofNat']; omega))) ?_
 refine ak (aw rfl rfl Tn.u Kr (j := 0) rfl Om) ?_
 refine ag (av (i := 0) rfl rfl rfl Kr D1 (by rw [aW]; decide)) rfl ?_
 rintro _ _ ⟨rfl, D2, cg⟩
 replace E := E.aE cg Vw; rw [fJ] at D2
 refine ak (aw rfl rfl Tn.u Kr (j := 1) rfl Om) ?_
 refine ag (av (i := 1) rfl rfl rfl Kr D2 (by rw [aW, List.length_set]; decide)) rfl ?_
 rintro _ _ ⟨rfl, D3, cg⟩
 replace E := E.aE cg Vw; rw [fJ] at D3
 refine aU ?_
 refine hret rfl ?_
 exact ⟨g1, rfl, bw D3 (tS z), E⟩
def LK : ByteArray := ⟨#[105, 110, 105, 116]⟩
def NW : ByteArray := ⟨#[98, 111, 120]⟩
def LJ : ByteArray := ⟨#[115, 105, 103, 110]⟩
def Iw : ByteArray := ⟨#[75, 101, 121, 80, 97, 99, 107, 97, 103, 101, 84, 66, 83]⟩
theorem sL : Iw.size ≤ 1000 := by decide
def Hs (seed : Lb) : List UInt8 := Kdf.label seed LK.data.toList [] 32
def MR (seed : Lb) : List UInt8 := Kdf.label seed NW.data.toList [] 32
def zy (seed : Lb) : List UInt8 := Kdf.label seed LJ.data.toList [] 32
def zw (ident seed : Lb) : bT := ⟨tv (MR seed), Sg.tv (zy seed), ident, 1, [], []⟩
def qe (ident seed : Lb) : bT := (zw ident seed).put (Sg.sig (zy seed) (Sg.text Ip.data.toList (gE (zw ident seed) [] 0)))
def Ka (ident seed : Lb) : Pack := ⟨tv (Hs seed), qe ident seed, List.replicate 64 0⟩
def De (ident seed : Lb) : Pack := ⟨tv (Hs seed), qe ident seed, Sg.sig (zy seed) (Sg.text Iw.data.toList (kl (Ka ident seed)))⟩
theorem iA (seed : Lb) : (zy seed).length = 32 := dN _ _ _ _
theorem AK {ident : Lb} (seed : Lb) (h1 : 1 ≤ ident.length) (h2 : ident.length ≤ 64) : aG (jY (zw ident seed)) :=
 ⟨dq _, Sg.dq _, (by show (List.replicate 64 (0 : UInt8)).length = 64; simp), h1, h2, (show 1 ≤ 1 by omega), (show 1 ≤ 3 by omega), .inl rfl⟩
theorem Kv {ident : Lb} (seed : Lb) (h1 : 1 ≤ ident.length) (h2 : ident.length ≤ 64) : ik (zw ident seed) (zy seed) [] 0 = (qe ident seed, 0) :=
 Fg (AK seed h1 h2) (.inl rfl) (iA seed)
theorem nF {ident : Lb} (seed : Lb) (h1 : 1 ≤ ident.length) (h2 : ident.length ≤ 64) : aG (qe ident seed) := zk (AK seed h1 h2) (Sg.jR _ _)
theorem kM {ident : Lb} (seed : Lb) (h1 : 1 ≤ ident.length) (h2 : ident.length ≤ 64) : dt (Ka ident seed) :=
 ⟨dq _, ⟨nF seed h1 h2, rfl⟩, (by show (List.replicate 64 (0 : UInt8)).length = 64; simp)⟩
theorem No {ident : Lb} (seed : Lb) (h1 : 1 ≤ ident.length) (h2 : ident.length ≤ 64) : dt (De ident seed) :=
 ⟨dq _, ⟨nF seed h1 h2, rfl⟩, Sg.jR _ _⟩
theorem fB {p : Pack} (h : dt p) : p.Small := by
 obtain ⟨h1, ⟨⟨o1, o2, o3, o4, o5, o6, o7, o8⟩, hs⟩, h3⟩ := h
 refine ⟨by omega, by omega, ?_⟩
 refine ⟨by show p.leaf.box.length ≤ 200; omega, by show p.leaf.sign.length ≤ 200; omega, by show p.leaf.ident.length ≤ 200; omega, by show p.leaf.parent.length ≤ 200; omega, by show p.leaf.sig.length ≤ 200; omega, ?_⟩
 exact ⟨Nat.zero_le _, Nat.zero_le _, Nat.zero_le _⟩
theorem gT {w : World} {A : Oa} {n : Nat} {xs : Lb} {S : List Nat} (H : Bs w A n xs) (hS : ∀ g ∈ S, ∃ t cs, ao w g t cs ∧ cs.size < n) : Kp w.heap.size S (fun w => Bs w A n xs) w :=
 Kp.bs H fun _ g hg o => by obtain ⟨t, cs, B, h⟩ := hS g hg; exact H.Hq B h o
theorem fH {w : World} {n : Nat} : ∀ g ∈ ([] : List Nat), ∃ t cs, ao w g t cs ∧ cs.size < n := fun _ h => by cases h
theorem aT {w : World} {n a : Nat} {S : List Nat} {t : TypeId} {cs : Array Value} (B : ao w a t cs) (h : cs.size < n) (hS : ∀ g ∈ S, ∃ t cs, ao w g t cs ∧ cs.size < n) : ∀ g ∈ a :: S, ∃ t cs, ao w g t cs ∧ cs.size < n := fun g hg => by
 rcases List.mem_cons.1 hg with rfl | hg
 ·exact ⟨t, cs, B, h⟩
 ·exact hS g hg
theorem Gy {ident : Lb} (seed : Lb) (h2 : ident.length ≤ 64) : (zw ident seed).Fit :=
 ⟨by show (tv _).length ≤ _; rw [dq]; omega, by show (Sg.tv _).length ≤ _; rw [Sg.dq]; omega, by show ident.length ≤ _; omega, by show (0 : Nat) ≤ _; omega, by show (0 : Nat) ≤ _; omega⟩
theorem IY {ident : Lb} (seed : Lb) (h2 : ident.length ≤ 64) : (dD (zw ident seed)).length ≤ 80000 := by
 refine Nat.le_trans (vh ?_) (show 900 ≤ 80000 by omega)
 exact ⟨by show (tv _).length ≤ _; rw [dq]; omega, by show (Sg.tv _).length ≤ _; rw [Sg.dq]; omega, by show ident.length ≤ _; omega, by show (0 : Nat) ≤ _; omega, by show (0 : Nat) ≤ _; omega, Nat.zero_le _, Nat.zero_le _, Nat.zero_le _⟩
def so (w : World) (cs : Array Value) (a b c : Lb) : Prop := ∃ h0 h1 h2 : Hd, cs = fN h0 h1 h2 ∧ lE w h0 a ∧ lE w h1 b ∧ lE w h2 c
theorem so.ext {w w' : World} {cs : Array Value} {a b c : Lb} (h : so w cs a b c) (e : Ext w w') : so w' cs a b c := by
 obtain ⟨h0, h1, h2, rfl, b0, b1, b2⟩ := h
 exact ⟨h0, h1, h2, rfl, Bs.ext b0 e, Bs.ext b1 e, Bs.ext b2 e⟩
theorem Cq {A : Oa} {n c : Nat} {ident : Lb} {B : Oa} {d : Nat} {seed : Lb} (w : World) (HA : Bs w A n ident) (h1 : 1 ≤ n) (h2 : n ≤ 64) (HB : Bs w B 32 seed) :
  Ct 27 #[.slice A n c, .slice B 32 d] w fun e w' => ∃ cs ks, e = .returned (.tuple #[.agg cs, .agg ks, .int .u8 0]) ∧ dd w' cs (De ident seed) ∧ so w' ks (GY (Hs seed)) (GY (MR seed)) (zy seed) ∧ Ext w w' := by
 have hil := HA.1
 have F := aA.refl [] w
 have KI : Kp w.heap.size [] (fun w => Bs w A n ident) w := Kp.bs HA (by simp)
 have KB : Kp w.heap.size [] (fun w => Bs w B 32 seed) w := Kp.bs HB (by simp)
 refine wS (s := 8) (s' := 3) 83 func27 rfl rfl rfl underlying29 rfl Kr underlying51 rfl Kr rfl ?_
 intro _ hret
 refine aU ?_
 intro _ Vx B4 VE ex
 have VZ := ex.size
 replace F := F.grow ex VE
 replace KI := KI.grow ex VE
 replace KB := KB.grow ex VE
 refine aU ?_
 intro _ Vy B5 VD ex
 have VN : Vx < Vy := Nat.lt_of_lt_of_le B4.lt VD
 replace F := F.grow ex VD
 replace KI := KI.grow ex VD
 replace KB := KB.grow ex VD
 replace B4 := B4.grow ex VD
 refine aU ?_
 intro _ Vz B7 VC ex
 have VO : Vx < Vz := Nat.lt_of_lt_of_le B4.lt VC
 have VP : Vy < Vz := Nat.lt_of_lt_of_le B5.lt VC
 replace F := F.grow ex VC
 replace KI := KI.grow ex VC
 replace KB := KB.grow ex VC
 replace B4 := B4.grow ex VC
 replace B5 := B5.grow ex VC
 refine aU ?_
 intro _ VA B8 VB ex
 have VQ : Vx < VA := Nat.lt_of_lt_of_le B4.lt VB
 have VR : Vy < VA := Nat.lt_of_lt_of_le B5.lt VB
 have VS : Vz < VA := Nat.lt_of_lt_of_le B7.lt VB
 replace F := F.grow ex VB
 replace KI := KI.grow ex VB
 replace KB := KB.grow ex VB
 replace B4 := B4.grow ex VB
 replace B5 := B5.grow ex VB
 replace B7 := B7.grow ex VB
 refine aU ?_
 replace B4 := B4.congr (cs' := fm an an an an 0 an an an) rfl
 replace B5 := B5.congr (cs' := fN an an an) rfl
 replace B7 := B7.congr (cs' := fm an an an an 0 an an an) rfl
 replace B8 := B8.congr (cs' := fN an an an) rfl
 refine aB func67 rfl (ic B 32 d LK seed _ KB.out Om (by decide)) ?_
 rintro e _ ⟨A1, c1, rfl, H1, ex⟩
 obtain ⟨F,KI,KB,B4,B5,B7,B8⟩ := iQ ex F KI KB B4 B5 B7 B8
 refine aU ?_
 refine aB func66 rfl (sr A1 32 c1 (Hs seed) _ H1 Om) ?_
 rintro e _ ⟨Aa, ca, Ab, cb, rfl, Ha, Hb, _, ex⟩
 obtain ⟨F,KI,KB,B4,B5,B7,B8⟩ := iQ ex F KI KB B4 B5 B7 B8
 have Ja := gT (S := [VA, Vz, Vy, Vx]) Ha (aT B8 (show (3 : Nat) < 32 by omega) (aT B7 (show (8 : Nat) < 32 by omega) (aT B5 (show (3 : Nat) < 32 by omega) (aT B4 (show (8 : Nat) < 32 by omega) fH)))); have Jb := gT (S := [VA, Vz, Vy, Vx]) Hb (aT B8 (show (3 : Nat) < 32 by omega) (aT B7 (show (8 : Nat) < 32 by omega) (aT B5 (show (3 : Nat) < 32 by omega) (aT B4 (show (8 : Nat) < 32 by omega) fH))))
 refine aU ?_
 intro _ D cg
 have ex := aA.one cg
 clear cg
 obtain ⟨F,KI,KB,B4,B5,B7,Ja,Jb⟩ := DD ex F KI KB B4 B5 B7 Ja Jb
 replace B8 := D; clear D
 replace B8 := B8.congr (cs' := fN ⟨Aa, 32, ca⟩ an an) rfl
 refine aU ?_
 intro _ D cg
 have ex := aA.one cg
 clear cg
 obtain ⟨F,KI,KB,B4,B5,B8,Ja,Jb⟩ := DD ex F KI KB B4 B5 B8 Ja Jb
 replace B7 := D; clear D
 replace B7 := B7.congr (cs' := fm ⟨Ab, 32, cb⟩ an an an 0 an an an) rfl
 refine aU ?_
 refine aB func67 rfl (ic B 32 d NW seed _ KB.out Om (by decide)) ?_
 rintro e _ ⟨A3, c3, rfl, H3, ex⟩
 obtain ⟨F,KI,KB,B4,B5,B7,B8,Ja,Jb⟩ := rA ex F KI KB B4 B5 B7 B8 Ja Jb
 refine aU ?_
 refine aB func66 rfl (sr A3 32 c3 (MR seed) _ H3 Om) ?_
 rintro e _ ⟨Ac, cc, Ad, cd, rfl, Hc, Hd, _, ex⟩
 obtain ⟨F,KI,KB,B4,B5,B7,B8,Ja,Jb⟩ := rA ex F KI KB B4 B5 B7 B8 Ja Jb
 have Jc := gT (S := [VA, Vz, Vy, Vx]) Hc (aT B8 (show (3 : Nat) < 32 by omega) (aT B7 (show (8 : Nat) < 32 by omega) (aT B5 (show (3 : Nat) < 32 by omega) (aT B4 (show (8 : Nat) < 32 by omega) fH)))); have Jd := gT (S := [VA, Vz, Vy, Vx]) Hd (aT B8 (show (3 : Nat) < 32 by omega) (aT B7 (show (8 : Nat) < 32 by omega) (aT B5 (show (3 : Nat) < 32 by omega) (aT B4 (show (8 : Nat) < 32 by omega) fH))))
 refine aU ?_
 intro _ D cg
 have ex := aA.one cg
 clear cg
 obtain ⟨F,KI,KB,B4,B5,B7,Ja,Jb,Jc⟩ := kf ex F KI KB B4 B5 B7 Ja Jb Jc
 replace Jd := Jd.bo ex
 replace B8 := D; clear D
 replace B8 := B8.congr (cs' := fN ⟨Aa, 32, ca⟩ ⟨Ac, 32, cc⟩ an) rfl
 refine aU ?_
 intro _ D cg
 have ex := aA.one cg
 clear cg
 obtain ⟨F,KI,KB,B4,B5,B8,Ja,Jb,Jc⟩ := kf ex F KI KB B4 B5 B8 Ja Jb Jc
 replace Jd := Jd.bo ex
 replace B7 := D; clear D
 replace B7 := B7.congr (cs' := fm ⟨Ab, 32, cb⟩ ⟨Ad, 32, cd⟩ an an 0 an an an) rfl
 refine aU ?_
 refine aB func67 rfl (ic B 32 d LJ seed _ KB.out Om (by decide)) ?_
 rintro e _ ⟨Ae, ce, rfl, He, ex⟩
 obtain ⟨F,KI,B4,B5,B7,B8,Ja,Jb,Jc⟩ := rA ex F KI B4 B5 B7 B8 Ja Jb Jc
 replace Jd := Jd.ext ex
 have Je : Kp _ [VA, Vz, Vy, Vx] (fun w => Bs w Ae 32 (zy seed)) _ := gT (S := [VA, Vz, Vy, Vx]) He (aT B8 (show (3 : Nat) < 32 by omega) (aT B7 (show (8 : Nat) < 32 by omega) (aT B5 (show (3 : Nat) < 32 by omega) (aT B4 (show (8 : Nat) < 32 by omega) fH))))
 refine aU ?_
 intro _ D cg
 have ex := aA.one cg
 clear cg
 obtain ⟨F,KI,B4,B5,B7,Ja,Jb,Jc,Jd⟩ := kf ex F KI B4 B5 B7 Ja Jb Jc Jd
 replace Je := Je.bo ex
 replace B8 := D; clear D
 replace B8 := B8.congr (cs' := fN ⟨Aa, 32, ca⟩ ⟨Ac, 32, cc⟩ ⟨Ae, 32, ce⟩) rfl
 refine aU ?_
 refine aB func29 rfl (Gt (c := ce) Je.out (iA seed)) ?_
 rintro e _ ⟨Ag, cg, rfl, Hg, _, ex⟩
 obtain ⟨F,KI,B4,B5,B7,B8,Ja,Jb,Jc⟩ := rA ex F KI B4 B5 B7 B8 Ja Jb Jc
 obtain ⟨Jd,Je⟩ := ba ex Jd Je
 have Jg := gT (S := [VA, Vz, Vy, Vx]) Hg (aT B8 (show (3 : Nat) < 32 by omega) (aT B7 (show (8 : Nat) < 32 by omega) (aT B5 (show (3 : Nat) < 32 by omega) (aT B4 (show (8 : Nat) < 32 by omega) fH))))
 refine aU ?_
 intro _ D cg
 have ex := aA.one cg
 clear cg
 obtain ⟨F,KI,B4,B5,B8,Ja,Jb,Jc,Jd⟩ := kf ex F KI B4 B5 B8 Ja Jb Jc Jd
 obtain ⟨Je,Jg⟩ := gu ex Je Jg
 replace B7 := D; clear D
 replace B7 := B7.congr (cs' := fm ⟨Ab, 32, cb⟩ ⟨Ad, 32, cd⟩ ⟨Ag, 32, cg⟩ an 0 an an an) rfl
 refine aU ?_
 intro _ D cg
 have ex := aA.one cg
 clear cg
 obtain ⟨F,KI,B4,B5,B8,Ja,Jb,Jc,Jd⟩ := kf ex F KI B4 B5 B8 Ja Jb Jc Jd
 obtain ⟨Je,Jg⟩ := gu ex Je Jg
 replace B7 := D; clear D
 replace B7 := B7.congr (cs' := fm ⟨Ab, 32, cb⟩ ⟨Ad, 32, cd⟩ ⟨Ag, 32, cg⟩ ⟨A, n, c⟩ 0 an an an) rfl
 refine aU ?_
 intro _ D cg
 have ex := aA.one cg
 clear cg
 obtain ⟨F,KI,B4,B5,B8,Ja,Jb,Jc,Jd⟩ := kf ex F KI B4 B5 B8 Ja Jb Jc Jd
 obtain ⟨Je,Jg⟩ := gu ex Je Jg
 replace B7 := D; clear D
 replace B7 := B7.congr (cs' := fm ⟨Ab, 32, cb⟩ ⟨Ad, 32, cd⟩ ⟨Ag, 32, cg⟩ ⟨A, n, c⟩ 1 an an an) rfl
 refine aU ?_
 have HL : dP _ _ (zw ident seed) := ⟨⟨Ad, 32, cd⟩, ⟨Ag, 32, cg⟩, ⟨A, n, c⟩, an, an, rfl, (by show 1 < 256; omega), Jd.out, Jg.out, KI.out, Bs.nil _ _, Bs.nil _ _⟩
 have m7 := B7.lt; have m8 := B8.lt; have m4 := B4.lt; have m5 := B5.lt
 refine aB func68 rfl (tN (z := 0) _ HL (Gy seed Om) (IY seed Om) Je.out (show 32 ≤ 100 by omega) (Bs.nil _ none) (Nat.zero_le 100) (Kv seed Om Om)) ?_
 rintro e w7 ⟨_, rfl, LA, LF, ex⟩
 obtain ⟨F,B4,B5,B7,B8,Ja,Jb,Jc,Je⟩ := rA ex F B4 B5 B7 B8 Ja Jb Jc Je
 obtain ⟨i0, i1, i2, i4, i5, rfl, _, ⟨l0, _⟩, ⟨l1, _⟩, ⟨l2, _⟩, ⟨l4, _⟩, ⟨l5, _⟩⟩ := LA; have n0 : i0.n = 32 := (by rw [← l0.1]; exact (nF seed Om Om).1); have n1 : i1.n = 32 := (by rw [← l1.1]; exact (nF seed Om Om).2.1); have n5 : i5.n = 64 := (by rw [← l5.1]; exact (nF seed Om Om).2.2.1); have n4 : i4.n = 0 := (by rw [← l4.1]; rfl); have L0 := gT (S := [VA, Vz, Vy, Vx]) l0 (by rw [n0]; exact (aT B8 (show (3 : Nat) < 32 by omega) (aT B7 (show (8 : Nat) < 32 by omega) (aT B5 (show (3 : Nat) < 32 by omega) (aT B4 (show (8 : Nat) < 32 by omega) fH))))); have L1 := gT (S := [VA, Vz, Vy, Vx]) l1 (by rw [n1]; exact (aT B8 (show (3 : Nat) < 32 by omega) (aT B7 (show (8 : Nat) < 32 by omega) (aT B5 (show (3 : Nat) < 32 by omega) (aT B4 (show (8 : Nat) < 32 by omega) fH))))); have L5 := gT (S := [VA, Vz, Vy, Vx]) l5 (by rw [n5]; exact (aT B8 (show (3 : Nat) < 64 by omega) (aT B7 (show (8 : Nat) < 64 by omega) (aT B5 (show (3 : Nat) < 64 by omega) (aT B4 (show (8 : Nat) < 64 by omega) fH))))); have L4 : Kp w7.heap.size [VA, Vz, Vy, Vx] (fun w => lE w i4 (qe ident seed).parent) w7 := Kp.bs l4 (fun h => by omega); have L2 := (LF _ _ _ rfl).kp (S := [VA, Vz, Vy, Vx]) So; clear LF l0 l1 l2 l4 l5
 refine aU ?_
 intro _ VK B9 Vw ex
 have VT : Vx < VK := Nat.lt_of_lt_of_le B4.lt Vw
 have VU : Vy < VK := Nat.lt_of_lt_of_le B5.lt Vw
 have VV : Vz < VK := Nat.lt_of_lt_of_le B7.lt Vw
 have VW : VA < VK := Nat.lt_of_lt_of_le B8.lt Vw
 replace F := F.grow ex Vw
 replace B4 := B4.grow ex Vw
 replace B5 := B5.grow ex Vw
 replace B7 := B7.grow ex Vw
 replace B8 := B8.grow ex Vw
 replace Ja := Ja.grow ex Vw
 replace Jb := Jb.grow ex Vw
 replace Jc := Jc.grow ex Vw
 replace Je := Je.grow ex Vw
 replace L0 := L0.grow ex Vw
 replace L1 := L1.grow ex Vw
 replace L2 := L2.grow ex Vw
 replace L4 := L4.grow ex Vw
 replace L5 := L5.grow ex Vw
 refine aU ?_
 intro _ D cg
 have ex := aA.one cg
 clear cg
 obtain ⟨F,B4,B5,B7,B8,Ja,Jb,Jc,Je⟩ := kf ex F B4 B5 B7 B8 Ja Jb Jc Je
 obtain ⟨L0,L1,L2,L4,L5⟩ := jI ex L0 L1 L2 L4 L5
 replace B9 := D; clear D
 refine aU ?_
 refine bS [(3, [Vz]), (5, [Vz])] Kr 6 rfl ?_; intro VX ex VY
 obtain ⟨F,B4,B5,B7,B8,Ja,Jb,Jc,Je⟩ := rA ex F B4 B5 B7 B8 Ja Jb Jc Je
 obtain ⟨L0,L1,L2,L4,L5,B9⟩ := iP ex L0 L1 L2 L4 L5 B9
 refine fO [(0, []), (2, [])] ?_
 refine aU ?_
 refine LV 1 3 Kr ?_ ?_
 ·skip
  have q7 := B7.lt
  have q8 := B8.lt
  have q4 := B4.lt
  have q5 := B5.lt
  refine cZ rfl (du (n := 64) (z := .int .u8 0) (bytes := 1) rfl rfl underlying23 Kr rfl rfl rfl rfl Om Om) rfl ?_
  rintro _ wm ⟨gm, rfl, Dm, hgm, ex⟩
  refine ⟨aA.of ex _, ?_⟩
  obtain ⟨F,B4,B5,B7,B8,Ja,Jb,Jc,Je⟩ := rA ex F B4 B5 B7 B8 Ja Jb Jc Je
  obtain ⟨L0,L1,L2,L4,L5⟩ := er ex L0 L1 L2 L4 L5
  have Jm : Kp wm.heap.size [VA, Vz, Vy, Vx] (fun w => Bs w (some ⟨gm, 0, none⟩) 64 (List.replicate 64 0)) wm := Kp.bs (uk Dm (by rfl)) (fun _ g hg o e => by injection e with e; injection e with e _ _; simp at hg; omega)
  refine cy 3 Kr ?_; refine cZ rfl (aL (o := 1) rfl rfl Kr B7 Nb (aR rfl)) rfl ?_
  rintro _ VF ⟨rfl, D, cg⟩
  have ex := aA.one cg
  clear cg
  refine ⟨ex, ?_⟩
  obtain ⟨F,B4,B5,B8,Ja,Jb,Jc,Je,L0⟩ := kf ex F B4 B5 B8 Ja Jb Jc Je L0
  obtain ⟨L1,L2,L4,L5,Jm⟩ := jI ex L1 L2 L4 L5 Jm
  replace B7 := D; clear D
  refine fO [(4, [])] ?_
  refine aU ?_
  refine cy 5 Kr ?_; refine cZ rfl (av (i := 7) rfl rfl rfl Kr B7 Nb) rfl ?_
  rintro _ VG ⟨rfl, D, cg⟩
  have ex := aA.one cg
  clear cg
  refine ⟨ex, ?_⟩
  obtain ⟨F,B4,B5,B8,Ja,Jb,Jc,Je,L0⟩ := kf ex F B4 B5 B8 Ja Jb Jc Je L0
  obtain ⟨L1,L2,L4,L5,Jm⟩ := jI ex L1 L2 L4 L5 Jm
  replace B7 := D; clear D
  refine cG Kr ?_
  replace B7 := B7.congr (cs' := fm ⟨Ab, 32, cb⟩ i0 i1 i2 (qe ident seed).src i4 i5 ⟨some ⟨gm, 0, none⟩, 64, 64⟩) rfl
  refine aU ?_
  have HP : dd _ _ (Ka ident seed) := ⟨⟨Ab, 32, cb⟩, i0, i1, i2, i4, i5, ⟨some ⟨gm, 0, none⟩, 64, 64⟩, rfl, (by show 1 < 256; omega), Jb.out, L0.out, L1.out, L2.out, L4.out, L5.out, Jm.out⟩
  refine aB func69 rfl (jV _ HP (fB (kM seed Om Om)).fit) ?_
  rintro e wt ⟨At, kt, ct, zt, rfl, Tt, hkt, ex⟩
  obtain ⟨F,B4,B5,B7,B8,Ja,Jb,Jc,Je⟩ := rA ex F B4 B5 B7 B8 Ja Jb Jc Je
  obtain ⟨L0,L1,L2,L4,L5⟩ := er ex L0 L1 L2 L4 L5
  have Ht := (Tt.1 (kM seed Om Om)).2; have hlt := Ht.1; have hls := kr (fB (kM (ident := ident) seed Om Om))
  refine aU ?_
  refine aB func63 rfl (Bd (s := Iw) (c := ce) (d := ct) Je.out Ht (iA seed) sL Om) ?_
  rintro e wl ⟨Al, cl, rfl, Hl, hcl, ex⟩
  obtain ⟨F,B4,B5,B7,B8,Ja,Jb,Jc,Je⟩ := rA ex F B4 B5 B7 B8 Ja Jb Jc Je
  obtain ⟨L0,L1,L2,L4,L5⟩ := er ex L0 L1 L2 L4 L5
  have Jl := gT (S := [VA, Vz, Vy, Vx]) Hl (aT B8 (show (3 : Nat) < 64 by omega) (aT B7 (show (8 : Nat) < 64 by omega) (aT B5 (show (3 : Nat) < 64 by omega) (aT B4 (show (8 : Nat) < 64 by omega) fH))))
  refine aU ?_
  intro VH D cg
  have ex := aA.one cg
  clear cg
  obtain ⟨F,B4,B5,B8,Ja,Jb,Jc,Je,L0⟩ := kf ex F B4 B5 B8 Ja Jb Jc Je L0
  obtain ⟨L1,L2,L4,L5,Jl⟩ := jI ex L1 L2 L4 L5 Jl
  replace B7 := D; clear D
  replace B7 := B7.congr (cs' := fm ⟨Ab, 32, cb⟩ i0 i1 i2 (qe ident seed).src i4 i5 ⟨Al, 64, cl⟩) rfl
  refine aU ?_
  refine bS [(2, [Vx]), (3, [Vy])] Kr 5 rfl ?_; intro VL ex VM
  obtain ⟨F,B4,B5,B7,B8,Ja,Jb,Jc,Je⟩ := rA ex F B4 B5 B7 B8 Ja Jb Jc Je
  obtain ⟨L0,L1,L2,L4,L5,Jl⟩ := iP ex L0 L1 L2 L4 L5 Jl
  refine fO [(0, []), (1, [2])] ?_
  refine aU ?_
  refine cy 2 Kr ?_; refine cZ rfl (aL (o := 0) rfl rfl Kr B4 Nb (aR rfl)) rfl ?_
  rintro _ VI ⟨rfl, D, cg⟩
  have ex := aA.one cg
  clear cg
  refine ⟨ex, ?_⟩
  obtain ⟨F,B5,Ja,Jb,Jc,Je,L0,L1,L2⟩ := kf ex F B5 Ja Jb Jc Je L0 L1 L2
  obtain ⟨L4,L5,Jl⟩ := me ex L4 L5 Jl
  replace B4 := D; clear D
  refine cy 3 Kr ?_; refine cZ rfl (aL (o := 0) rfl rfl Kr B5 Nb (aR rfl)) rfl ?_
  rintro _ VJ ⟨rfl, D, cg⟩
  have ex := aA.one cg
  clear cg
  refine ⟨ex, ?_⟩
  obtain ⟨F,B4,Ja,Jb,Jc,Je,L0,L1,L2⟩ := kf ex F B4 Ja Jb Jc Je L0 L1 L2
  obtain ⟨L4,L5,Jl⟩ := me ex L4 L5 Jl
  replace B5 := D; clear D
  refine fO [(4, [])] ?_
  refine aU ?_
  refine cG Kr ?_
  replace B4 := B4.congr (cs' := fm ⟨Ab, 32, cb⟩ i0 i1 i2 (qe ident seed).src i4 i5 ⟨Al, 64, cl⟩) rfl
  replace B5 := B5.congr (cs' := fN ⟨Aa, 32, ca⟩ ⟨Ac, 32, cc⟩ ⟨Ae, 32, ce⟩) rfl
  refine aU ?_
  refine hret rfl rfl rfl B4 rfl B5 rfl ?_
  exact ⟨_, _, rfl, ⟨⟨Ab, 32, cb⟩, i0, i1, i2, i4, i5, ⟨Al, 64, cl⟩, rfl, (by show 1 < 256; omega), Jb.out, L0.out, L1.out, L2.out, L4.out, L5.out, Jl.out⟩, ⟨⟨Aa, 32, ca⟩, ⟨Ac, 32, cc⟩, ⟨Ae, 32, ce⟩, rfl, Ja.out, Jc.out, Je.out⟩, F.aD So⟩
 ·skip
  refine cZ rfl (aL (o := 1) rfl rfl Kr B7 Nb (aR rfl)) rfl ?_
  rintro _ VF ⟨rfl, D, cg⟩
  have ex := aA.one cg
  clear cg
  refine ⟨ex, ?_⟩
  obtain ⟨F,B4,B5,B8,Ja,Jb,Jc,Je,L0⟩ := kf ex F B4 B5 B8 Ja Jb Jc Je L0
  obtain ⟨L1,L2,L4,L5⟩ := dj ex L1 L2 L4 L5
  replace B7 := D; clear D
  have q7 := B7.lt
  have q8 := B8.lt
  have q4 := B4.lt
  have q5 := B5.lt
  refine cy 1 Kr ?_; refine cZ rfl (du (n := 64) (z := .int .u8 0) (bytes := 1) rfl rfl Tn.u Kr rfl rfl rfl rfl Om Om) rfl ?_
  rintro _ wm ⟨gm, rfl, Dm, hgm, ex⟩
  refine ⟨aA.of ex _, ?_⟩
  obtain ⟨F,B4,B5,B7,B8,Ja,Jb,Jc,Je⟩ := rA ex F B4 B5 B7 B8 Ja Jb Jc Je
  obtain ⟨L0,L1,L2,L4,L5⟩ := er ex L0 L1 L2 L4 L5
  have Jm : Kp wm.heap.size [VA, Vz, Vy, Vx] (fun w => Bs w (some ⟨gm, 0, none⟩) 64 (List.replicate 64 0)) wm := Kp.bs (uk Dm (by rfl)) (fun _ g hg o e => by injection e with e; injection e with e _ _; simp at hg; omega)
  refine fO [(4, [])] ?_
  refine aU ?_
  refine cy 5 Kr ?_; refine cZ rfl (av (i := 7) rfl rfl rfl Kr B7 Nb) rfl ?_
  rintro _ VG ⟨rfl, D, cg⟩
  have ex := aA.one cg
  clear cg
  refine ⟨ex, ?_⟩
  obtain ⟨F,B4,B5,B8,Ja,Jb,Jc,Je,L0⟩ := kf ex F B4 B5 B8 Ja Jb Jc Je L0
  obtain ⟨L1,L2,L4,L5,Jm⟩ := jI ex L1 L2 L4 L5 Jm
  replace B7 := D; clear D
  refine cG Kr ?_
  replace B7 := B7.congr (cs' := fm ⟨Ab, 32, cb⟩ i0 i1 i2 (qe ident seed).src i4 i5 ⟨some ⟨gm, 0, none⟩, 64, 64⟩) rfl
  refine aU ?_
  have HP : dd _ _ (Ka ident seed) := ⟨⟨Ab, 32, cb⟩, i0, i1, i2, i4, i5, ⟨some ⟨gm, 0, none⟩, 64, 64⟩, rfl, (by show 1 < 256; omega), Jb.out, L0.out, L1.out, L2.out, L4.out, L5.out, Jm.out⟩
  refine aB func69 rfl (jV _ HP (fB (kM seed Om Om)).fit) ?_
  rintro e wt ⟨At, kt, ct, zt, rfl, Tt, hkt, ex⟩
  obtain ⟨F,B4,B5,B7,B8,Ja,Jb,Jc,Je⟩ := rA ex F B4 B5 B7 B8 Ja Jb Jc Je
  obtain ⟨L0,L1,L2,L4,L5⟩ := er ex L0 L1 L2 L4 L5
  have Ht := (Tt.1 (kM seed Om Om)).2; have hlt := Ht.1; have hls := kr (fB (kM (ident := ident) seed Om Om))
  refine aU ?_
  refine aB func63 rfl (Bd (s := Iw) (c := ce) (d := ct) Je.out Ht (iA seed) sL Om) ?_
  rintro e wl ⟨Al, cl, rfl, Hl, hcl, ex⟩
  obtain ⟨F,B4,B5,B7,B8,Ja,Jb,Jc,Je⟩ := rA ex F B4 B5 B7 B8 Ja Jb Jc Je
  obtain ⟨L0,L1,L2,L4,L5⟩ := er ex L0 L1 L2 L4 L5
  have Jl := gT (S := [VA, Vz, Vy, Vx]) Hl (aT B8 (show (3 : Nat) < 64 by omega) (aT B7 (show (8 : Nat) < 64 by omega) (aT B5 (show (3 : Nat) < 64 by omega) (aT B4 (show (8 : Nat) < 64 by omega) fH))))
  refine aU ?_
  intro VH D cg
  have ex := aA.one cg
  clear cg
  obtain ⟨F,B4,B5,B8,Ja,Jb,Jc,Je,L0⟩ := kf ex F B4 B5 B8 Ja Jb Jc Je L0
  obtain ⟨L1,L2,L4,L5,Jl⟩ := jI ex L1 L2 L4 L5 Jl
  replace B7 := D; clear D
  replace B7 := B7.congr (cs' := fm ⟨Ab, 32, cb⟩ i0 i1 i2 (qe ident seed).src i4 i5 ⟨Al, 64, cl⟩) rfl
  refine aU ?_
  refine bS [(2, [Vx]), (3, [Vy])] Kr 5 rfl ?_; intro VL ex VM
  obtain ⟨F,B4,B5,B7,B8,Ja,Jb,Jc,Je⟩ := rA ex F B4 B5 B7 B8 Ja Jb Jc Je
  obtain ⟨L0,L1,L2,L4,L5,Jl⟩ := iP ex L0 L1 L2 L4 L5 Jl
  refine fO [(0, []), (1, [2])] ?_
  refine aU ?_
  refine cy 2 Kr ?_; refine cZ rfl (aL (o := 0) rfl rfl Kr B4 Nb (aR rfl)) rfl ?_
  rintro _ VI ⟨rfl, D, cg⟩
  have ex := aA.one cg
  clear cg
  refine ⟨ex, ?_⟩
  obtain ⟨F,B5,Ja,Jb,Jc,Je,L0,L1,L2⟩ := kf ex F B5 Ja Jb Jc Je L0 L1 L2
  obtain ⟨L4,L5,Jl⟩ := me ex L4 L5 Jl
  replace B4 := D; clear D
  refine cy 3 Kr ?_; refine cZ rfl (aL (o := 0) rfl rfl Kr B5 Nb (aR rfl)) rfl ?_
  rintro _ VJ ⟨rfl, D, cg⟩
  have ex := aA.one cg
  clear cg
  refine ⟨ex, ?_⟩
  obtain ⟨F,B4,Ja,Jb,Jc,Je,L0,L1,L2⟩ := kf ex F B4 Ja Jb Jc Je L0 L1 L2
  obtain ⟨L4,L5,Jl⟩ := me ex L4 L5 Jl
  replace B5 := D; clear D
  refine fO [(4, [])] ?_
  refine aU ?_
  refine cG Kr ?_
  replace B4 := B4.congr (cs' := fm ⟨Ab, 32, cb⟩ i0 i1 i2 (qe ident seed).src i4 i5 ⟨Al, 64, cl⟩) rfl
  replace B5 := B5.congr (cs' := fN ⟨Aa, 32, ca⟩ ⟨Ac, 32, cc⟩ ⟨Ae, 32, ce⟩) rfl
  refine aU ?_
  refine hret rfl rfl rfl B4 rfl B5 rfl ?_
  exact ⟨_, _, rfl, ⟨⟨Ab, 32, cb⟩, i0, i1, i2, i4, i5, ⟨Al, 64, cl⟩, rfl, (by show 1 < 256; omega), Jb.out, L0.out, L1.out, L2.out, L4.out, L5.out, Jl.out⟩, ⟨⟨Aa, 32, ca⟩, ⟨Ac, 32, cc⟩, ⟨Ae, 32, ce⟩, rfl, Ja.out, Jc.out, Je.out⟩, F.aD So⟩
end Go.Proofs.YtgfafidlkldeaaaGreat
