/- What a seed makes: props.Package. No conditions: contracts of the program's functions. -/
import Derived.Test.YtjllhimhiekchaaGreatWlA
import Derived.Test.YtjllhimhiekchaaGreatDhB
import Derived.Test.YtjllhimhiekchaaGreatSecA
import Derived.Test.YtjllhimhiekchaaGreatKdfC
import Derived.Test.YtjllhimhiekchaaGreatMacA
import Derived.Test.YtjllhimhiekchaaGreatVk
namespace Go.Proofs.YtjllhimhiekchaaGreat
open Go.RowKit
section
variable {P : Program} {f : FuncId} {fn : Func} {c : Code} {args : Array Value} {R : Ending → World → Prop} {w : World}
theorem results_cct {p q x : Tmp} {ty ty' : TypeId} (h : fn.results = #[.cell p ty, .cell q ty', .tmp x]) (tmps : Array Value) {g g' : Nat} {t t' : TypeId} {cs cs' : Array Value} {v : Value} {d d' : TypeDesc}
  (hp : tmps.getD p undef = .pointer (some ⟨g, 0, none⟩)) (hq : tmps.getD q undef = .pointer (some ⟨g', 0, none⟩)) (hx : tmps.getD x undef = v) (hg : Blk w g t cs) (hg' : Blk w g' t' cs') (hu : P.underlying ty = some d) (hd : (match d with | .struct _ | .array _ _ => true | _ => false) = true) (hi : (P.info? ty).map (·.size) = some cs.size)
  (hu' : P.underlying ty' = some d') (hd' : (match d' with | .struct _ | .array _ _ => true | _ => false) = true) (hi' : (P.info? ty').map (·.size) = some cs'.size) : (results fn tmps).run P w = .ok (.tuple #[.agg cs, .agg cs', v]) w := by
 have hp' : tmps[p]?.getD undef = .pointer (some ⟨g, 0, none⟩) := by simpa using hp
 have hq' : tmps[q]?.getD undef = .pointer (some ⟨g', 0, none⟩) := by simpa using hq
 have hx' : tmps[x]?.getD undef = v := by simpa using hx
 simp [results, h, hp', hq', hx', asAddr, run_loadVar_row w g t ty cs _ d hg hu hd hi, run_loadVar_row w g' t' ty' cs' _ d' hg' hu' hd' hi']
theorem vc_entercct {ty ty' : TypeId} {s s' : Nat} {d d' : TypeDesc} (N : Nat) {u t x : Tmp} (hf : P.funcs[f]? = some fn) (hb : fn.body = some c) (hN : fn.ntmps = N) (hr : fn.results = #[.cell u ty, .cell t ty', .tmp x]) (hu : P.underlying ty = some d) (hd : (match d with | .struct _ | .array _ _ => true | _ => false) = true) (hs : (P.info? ty).map (·.size) = some s)
  (hu' : P.underlying ty' = some d') (hd' : (match d' with | .struct _ | .array _ _ => true | _ => false) = true) (hs' : (P.info? ty').map (·.size) = some s') (hsz : Nat.ble args.size N = true)
  (h : ∀ Q : Exit → Act → World → Prop, (∀ {N : Nat} {L : List (Nat × Value)} {w : World} {g g' : Nat} {e e' : TypeId} {cs cs' : Array Value} {v : Value}, look L u = some (.pointer (some ⟨g, 0, none⟩)) → look L t = some (.pointer (some ⟨g', 0, none⟩)) → look L x = some v → Blk w g e cs → cs.size = s → Blk w g' e' cs' → cs'.size = s' → R (.returned (.tuple #[.agg cs, .agg cs', v])) w → WQ Q .ret N L w) → WC P Q c N (slots 0 args.toList) w) : Calls P f args w R :=
 vc_enter N hf hb hN hsz fun Q hQ => h Q fun {N L w g g' e e' cs cs' v} hv ht hx hg hz hg' hz' hR a ha => hQ (bodyPost_ret (v := .tuple #[.agg cs, .agg cs', v]) (results_cct hr _ (getD_of (ha.has _ _ hv)) (getD_of (ha.has _ _ ht)) (getD_of (ha.has _ _ hx)) hg hg' hu hd (by rw [hz]; exact hs) hu' hd' (by rw [hz']; exact hs')) ha.defers hR)
end
attribute [local irreducible] Y Ef WL WC WK WQ WM OpM WN WF OpN WJ OpJ WG OpG WLr
open Wire Nd M20 Hk
def seedN (z : Nat) : List UInt8 := ((List.replicate 32 (0 : UInt8)).set 0 (UInt8.ofNat z)).set 1 (UInt8.ofNat (z / 256))
theorem seedN_length (z : Nat) : (seedN z).length = 32 := by unfold seedN; simp
theorem wseed_any (z : Nat) (hz : z ≤ 60000) (w : World) :
  Calls Tryz.prog 34 #[.int .i64 (z : Int)] w fun e w' => ∃ g, e = .returned (.slice (some ⟨g, 0, none⟩) 32 32) ∧ Bs w' (some ⟨g, 0, none⟩) 32 (seedN z) ∧ Ext w w' := by
 have E := Ext.refl w
 refine vc_enter1 15 Tryz.func34 rfl rfl rfl rfl ?_
 intro Q hret
 refine wc_seq ?_; intro K1 hK1
 refine wc_region ?_
 refine wl_y (y_assign rfl) rfl ?_
 refine wl_nil ?_
 refine wq_then_norm (hK1 ?_)
 refine wc_seq ?_; intro K2 hK2
 refine wc_region ?_
 refine wl_ef (ef_make (n := 32) (z := .int .u8 0) (bytes := 1) rfl rfl Tryz.underlying23 (by kernel_rfl) rfl rfl rfl rfl (by omega) (by omega)) rfl ?_
 rintro _ w1 ⟨g1, rfl, D1, hg1, ex⟩
 replace E := E.ext ex
 replace D1 := D1.congr (cs' := bys (List.replicate 32 0)) (by kernel_rfl)
 refine wl_y (y_assign rfl) rfl ?_
 refine wl_nil ?_
 refine wq_then_norm (hK2 ?_)
 refine wc_seq ?_; intro K3 hK3
 refine wc_region ?_
 refine wl_y (y_move rfl) rfl ?_
 refine wl_y (y_move rfl) rfl ?_
 refine wl_y (y_move rfl) rfl ?_
 refine wl_y (y_conv rfl Tryz.underlying3 Tryz.underlying5 (show _ = ((UInt8.ofNat z).toNat : Int) from (IntKind.wrap_u8' _).trans (by rw [UInt8.toNat_ofNat']; omega))) rfl ?_
 refine wl_y (y_move rfl) rfl ?_
 refine wl_y (y_quo rfl rfl (by omega) (show _ = ((z / 256 : Nat) : Int) from (IntWalk.i64_quo _ _ (by omega)).trans (by omega))) rfl ?_
 refine wl_y (y_conv rfl Tryz.underlying3 Tryz.underlying5 (show _ = ((UInt8.ofNat (z / 256)).toNat : Int) from (IntKind.wrap_u8' _).trans (by rw [UInt8.toNat_ofNat']; omega))) rfl ?_
 refine wl_y (y_ixs1 rfl rfl Tryz.underlying23 (by kernel_rfl) (j := 0) rfl (by omega)) rfl ?_
 refine wl_ef (ef_storeB (i := 0) rfl rfl rfl (by kernel_rfl) D1 (by rw [bys_size]; decide)) rfl ?_
 rintro _ w2 ⟨rfl, D2, cg⟩
 replace E := E.chg cg hg1; rw [bys_put] at D2
 refine wl_y (y_ixs1 rfl rfl Tryz.underlying23 (by kernel_rfl) (j := 1) rfl (by omega)) rfl ?_
 refine wl_ef (ef_storeB (i := 1) rfl rfl rfl (by kernel_rfl) D2 (by rw [bys_size, List.length_set]; decide)) rfl ?_
 rintro _ w3 ⟨rfl, D3, cg⟩
 replace E := E.chg cg hg1; rw [bys_put] at D3
 refine wl_nil ?_
 refine wq_then_norm (hK3 ?_)
 refine wc_seq ?_; intro K4 hK4
 refine wc_region ?_
 refine wl_y (y_move rfl) rfl ?_
 refine wl_y (y_assign rfl) rfl ?_
 refine wl_nil ?_
 refine wq_then_norm (hK4 ?_)
 refine wc_ret ?_
 refine hret rfl ?_
 exact ⟨g1, rfl, bs_blk' D3 (seedN_length z), E⟩
def sInit : ByteArray := ⟨#[105, 110, 105, 116]⟩
def sBox : ByteArray := ⟨#[98, 111, 120]⟩
def sSign : ByteArray := ⟨#[115, 105, 103, 110]⟩
def labP : ByteArray := ⟨#[75, 101, 121, 80, 97, 99, 107, 97, 103, 101, 84, 66, 83]⟩
theorem labP_size : labP.size ≤ 1000 := by decide
def kIni (seed : List UInt8) : List UInt8 := Kdf.label seed sInit.data.toList [] 32
def kBox (seed : List UInt8) : List UInt8 := Kdf.label seed sBox.data.toList [] 32
def kSgn (seed : List UInt8) : List UInt8 := Kdf.label seed sSign.data.toList [] 32
def mkL0 (ident seed : List UInt8) : Leaf := ⟨pub (kBox seed), Sg.pub (kSgn seed), ident, 1, [], []⟩
def mkL1 (ident seed : List UInt8) : Leaf := (mkL0 ident seed).put (Sg.sig (kSgn seed) (Sg.text lab.data.toList (leafT (mkL0 ident seed) [] 0)))
def mkP0 (ident seed : List UInt8) : Pack := ⟨pub (kIni seed), mkL1 ident seed, List.replicate 64 0⟩
def mkP (ident seed : List UInt8) : Pack := ⟨pub (kIni seed), mkL1 ident seed, Sg.sig (kSgn seed) (Sg.text labP.data.toList (packT (mkP0 ident seed)))⟩
theorem kSgn_length (seed : List UInt8) : (kSgn seed).length = 32 := label_length _ _ _ _
theorem mkL0_ok {ident : List UInt8} (seed : List UInt8) (h1 : 1 ≤ ident.length) (h2 : ident.length ≤ 64) : okLeaf (wantL (mkL0 ident seed)) :=
 ⟨pub_length _, Sg.pub_length _, (by show (List.replicate 64 (0 : UInt8)).length = 64; simp), h1, h2, (show 1 ≤ 1 by omega), (show 1 ≤ 3 by omega), .inl rfl⟩
theorem mkL1_eq {ident : List UInt8} (seed : List UInt8) (h1 : 1 ≤ ident.length) (h2 : ident.length ≤ 64) : signX (mkL0 ident seed) (kSgn seed) [] 0 = (mkL1 ident seed, 0) :=
 signX_ok (mkL0_ok seed h1 h2) (.inl rfl) (kSgn_length seed)
theorem mkL1_ok {ident : List UInt8} (seed : List UInt8) (h1 : 1 ≤ ident.length) (h2 : ident.length ≤ 64) : okLeaf (mkL1 ident seed) := okLeaf_put (mkL0_ok seed h1 h2) (Sg.sig_length _ _)
theorem mkP0_ok {ident : List UInt8} (seed : List UInt8) (h1 : 1 ≤ ident.length) (h2 : ident.length ≤ 64) : okPack (mkP0 ident seed) :=
 ⟨pub_length _, ⟨mkL1_ok seed h1 h2, rfl⟩, (by show (List.replicate 64 (0 : UInt8)).length = 64; simp)⟩
theorem mkP_ok {ident : List UInt8} (seed : List UInt8) (h1 : 1 ≤ ident.length) (h2 : ident.length ≤ 64) : okPack (mkP ident seed) :=
 ⟨pub_length _, ⟨mkL1_ok seed h1 h2, rfl⟩, Sg.sig_length _ _⟩
theorem okPack_small {p : Pack} (h : okPack p) : p.Small := by
 obtain ⟨h1, ⟨⟨o1, o2, o3, o4, o5, o6, o7, o8⟩, hs⟩, h3⟩ := h
 refine ⟨by omega, by omega, ?_⟩
 refine ⟨by show p.leaf.box.length ≤ 200; omega, by show p.leaf.sign.length ≤ 200; omega, by show p.leaf.ident.length ≤ 200; omega, by show p.leaf.parent.length ≤ 200; omega, by show p.leaf.sig.length ≤ 200; omega, ?_⟩
 exact ⟨Nat.zero_le _, Nat.zero_le _, Nat.zero_le _⟩
theorem kp_far {w : World} {A : Option Addr} {n : Nat} {xs : List UInt8} {S : List Nat} (H : Bs w A n xs) (hS : ∀ g ∈ S, ∃ t cs, Blk w g t cs ∧ cs.size < n) : Kp w.heap.size S (fun w => Bs w A n xs) w :=
 Kp.bs H fun _ g hg o => by obtain ⟨t, cs, B, h⟩ := hS g hg; exact H.notin B h o
theorem far_nil {w : World} {n : Nat} : ∀ g ∈ ([] : List Nat), ∃ t cs, Blk w g t cs ∧ cs.size < n := fun _ h => by cases h
theorem far_cons {w : World} {n a : Nat} {S : List Nat} {t : TypeId} {cs : Array Value} (B : Blk w a t cs) (h : cs.size < n) (hS : ∀ g ∈ S, ∃ t cs, Blk w g t cs ∧ cs.size < n) : ∀ g ∈ a :: S, ∃ t cs, Blk w g t cs ∧ cs.size < n := fun g hg => by
 rcases List.mem_cons.1 hg with rfl | hg
 ·exact ⟨t, cs, B, h⟩
 ·exact hS g hg
theorem mkL0_fit {ident : List UInt8} (seed : List UInt8) (h2 : ident.length ≤ 64) : (mkL0 ident seed).Fit :=
 ⟨by show (pub _).length ≤ _; rw [pub_length]; omega, by show (Sg.pub _).length ≤ _; rw [Sg.pub_length]; omega, by show ident.length ≤ _; omega, by show (0 : Nat) ≤ _; omega, by show (0 : Nat) ≤ _; omega⟩
theorem mkL0_le {ident : List UInt8} (seed : List UInt8) (h2 : ident.length ≤ 64) : (leafU (mkL0 ident seed)).length ≤ 80000 := by
 refine Nat.le_trans (leafU_small ?_) (show 900 ≤ 80000 by omega)
 exact ⟨by show (pub _).length ≤ _; rw [pub_length]; omega, by show (Sg.pub _).length ≤ _; rw [Sg.pub_length]; omega, by show ident.length ≤ _; omega, by show (0 : Nat) ≤ _; omega, by show (0 : Nat) ≤ _; omega, Nat.zero_le _, Nat.zero_le _, Nat.zero_le _⟩
def PrvAt (w : World) (cs : Array Value) (a b c : List UInt8) : Prop := ∃ h0 h1 h2 : Hd, cs = thrV h0 h1 h2 ∧ BsH w h0 a ∧ BsH w h1 b ∧ BsH w h2 c
set_option maxHeartbeats 2000000 in
theorem ppack_any {A : Option Addr} {n c : Nat} {ident : List UInt8} {B : Option Addr} {d : Nat} {seed : List UInt8} (w : World) (HA : Bs w A n ident) (h1 : 1 ≤ n) (h2 : n ≤ 64) (HB : Bs w B 32 seed) :
  Calls Tryz.prog 33 #[.slice A n c, .slice B 32 d] w fun e w' => ∃ cs ks, e = .returned (.tuple #[.agg cs, .agg ks, .int .u8 0]) ∧ PackAt w' cs (mkP ident seed) ∧ PrvAt w' ks (priv (kIni seed)) (priv (kBox seed)) (kSgn seed) ∧ Ext w w' := by
 have hil := HA.1
 have F := Chs.refl [] w
 have KI : Kp w.heap.size [] (fun w => Bs w A n ident) w := Kp.bs HA (by simp)
 have KB : Kp w.heap.size [] (fun w => Bs w B 32 seed) w := Kp.bs HB (by simp)
 refine vc_entercct (s := 8) (s' := 3) 83 Tryz.func33 rfl rfl rfl Tryz.underlying29 rfl (by kernel_rfl) Tryz.underlying51 rfl (by kernel_rfl) rfl ?_
 intro Q hret
 refine wc_seq ?_; intro K1 hK1
 refine wc_region ?_
 refine wl_ef (ef_alloc (Z := #[.slice none 0 0, .slice none 0 0, .slice none 0 0, .slice none 0 0, .int .u8 0, .slice none 0 0, .slice none 0 0, .slice none 0 0]) (by kernel_rfl)) rfl ?_
 rintro _ wB4 ⟨gB4, rfl, B4, hgB4, ex⟩
 have lB4 := B4.lt; have zB4 := ex.size
 replace F := F.grow ex hgB4
 replace KI := KI.grow ex hgB4
 replace KB := KB.grow ex hgB4
 refine wl_ef (ef_alloc (Z := #[.slice none 0 0, .slice none 0 0, .slice none 0 0]) (by kernel_rfl)) rfl ?_
 rintro _ wB5 ⟨gB5, rfl, B5, hgB5, ex⟩
 have lB5 := B5.lt; have zB5 := ex.size
 have nB4_5 : gB4 < gB5 := Nat.lt_of_lt_of_le B4.lt hgB5
 replace F := F.grow ex hgB5
 replace KI := KI.grow ex hgB5
 replace KB := KB.grow ex hgB5
 replace B4 := B4.grow ex hgB5
 refine wl_y (y_assign rfl) rfl ?_
 refine wl_nil ?_
 refine wq_then_norm (hK1 ?_)
 refine wc_seq ?_; intro K2 hK2
 refine wc_seq ?_; intro K3 hK3
 refine wc_region ?_
 refine wl_y (y_move rfl) rfl ?_
 refine wl_y (y_len_slice rfl Tryz.underlying23) rfl ?_
 refine wl_y (Y.as (y_neq rfl rfl) (congrArg Value.bool (decide_eq_false (by omega)))) rfl ?_
 refine wl_nil ?_
 refine wq_then_norm (hK3 ?_)
 refine wc_false rfl rfl ?_
 refine wc_skip ?_
 refine wq_then_norm (hK2 ?_)
 refine wc_seq ?_; intro K4 hK4
 refine wc_region ?_
 refine wl_ef (ef_alloc (Z := #[.slice none 0 0, .slice none 0 0, .slice none 0 0, .slice none 0 0, .int .u8 0, .slice none 0 0, .slice none 0 0, .slice none 0 0]) (by kernel_rfl)) rfl ?_
 rintro _ wB7 ⟨gB7, rfl, B7, hgB7, ex⟩
 have lB7 := B7.lt; have zB7 := ex.size
 have nB4_7 : gB4 < gB7 := Nat.lt_of_lt_of_le B4.lt hgB7
 have nB5_7 : gB5 < gB7 := Nat.lt_of_lt_of_le B5.lt hgB7
 replace F := F.grow ex hgB7
 replace KI := KI.grow ex hgB7
 replace KB := KB.grow ex hgB7
 replace B4 := B4.grow ex hgB7
 replace B5 := B5.grow ex hgB7
 have lB7 := B7.lt
 refine wl_nil ?_
 refine wq_then_norm (hK4 ?_)
 refine wc_seq ?_; intro K5 hK5
 refine wc_region ?_
 refine wl_ef (ef_alloc (Z := #[.slice none 0 0, .slice none 0 0, .slice none 0 0]) (by kernel_rfl)) rfl ?_
 rintro _ wB8 ⟨gB8, rfl, B8, hgB8, ex⟩
 have lB8 := B8.lt; have zB8 := ex.size
 have nB4_8 : gB4 < gB8 := Nat.lt_of_lt_of_le B4.lt hgB8
 have nB5_8 : gB5 < gB8 := Nat.lt_of_lt_of_le B5.lt hgB8
 have nB7_8 : gB7 < gB8 := Nat.lt_of_lt_of_le B7.lt hgB8
 replace F := F.grow ex hgB8
 replace KI := KI.grow ex hgB8
 replace KB := KB.grow ex hgB8
 replace B4 := B4.grow ex hgB8
 replace B5 := B5.grow ex hgB8
 replace B7 := B7.grow ex hgB8
 refine wl_nil ?_
 refine wq_then_norm (hK5 ?_)
 refine wc_seq ?_; intro K6 hK6
 refine wc_region ?_
 refine wl_y (y_move rfl) rfl ?_
 replace B4 := B4.congr (cs' := packV nilH nilH nilH nilH 0 nilH nilH nilH) rfl
 replace B5 := B5.congr (cs' := thrV nilH nilH nilH) rfl
 replace B7 := B7.congr (cs' := packV nilH nilH nilH nilH 0 nilH nilH nilH) rfl
 replace B8 := B8.congr (cs' := thrV nilH nilH nilH) rfl
 refine wl_call Tryz.func81 rfl rfl rfl (secret_any B 32 d sInit seed _ KB.out (by omega) (by decide)) rfl ?_
 rintro e w1 ⟨A1, c1, rfl, H1, ex⟩
 refine ⟨_, rfl, ?_⟩
 replace F := F.ext ex
 replace KI := KI.ext ex
 replace KB := KB.ext ex
 replace B4 := B4.ext ex
 replace B5 := B5.ext ex
 replace B7 := B7.ext ex
 replace B8 := B8.ext ex
 skip
 refine wl_call Tryz.func80 rfl rfl rfl (hpair_any A1 32 c1 (kIni seed) _ H1 (by omega)) rfl ?_
 rintro e w2 ⟨Aa, ca, Ab, cb, rfl, Ha, Hb, hca, ex⟩
 refine ⟨_, rfl, ?_⟩
 replace F := F.ext ex
 replace KI := KI.ext ex
 replace KB := KB.ext ex
 replace B4 := B4.ext ex
 replace B5 := B5.ext ex
 replace B7 := B7.ext ex
 replace B8 := B8.ext ex
 have Ja := kp_far (S := [gB8, gB7, gB5, gB4]) Ha (far_cons B8 (show (3 : Nat) < 32 by omega) (far_cons B7 (show (8 : Nat) < 32 by omega) (far_cons B5 (show (3 : Nat) < 32 by omega) (far_cons B4 (show (8 : Nat) < 32 by omega) far_nil)))); have Jb := kp_far (S := [gB8, gB7, gB5, gB4]) Hb (far_cons B8 (show (3 : Nat) < 32 by omega) (far_cons B7 (show (8 : Nat) < 32 by omega) (far_cons B5 (show (3 : Nat) < 32 by omega) (far_cons B4 (show (8 : Nat) < 32 by omega) far_nil))))
 refine wl_y (y_move rfl) rfl ?_
 refine wl_y (y_extract rfl rfl) rfl ?_
 refine wl_y (y_extract rfl rfl) rfl ?_
 refine wl_y (y_fieldAddr (o := 0) (s := 1) (off := 0) (o' := 0) rfl Tryz.underlying51 rfl (by kernel_rfl) rfl rfl) rfl ?_
 refine wl_ef (ef_storeB (i := 0) rfl rfl rfl (by kernel_rfl) B8 (Nat.le_of_ble_eq_true rfl)) rfl ?_
 rintro _ wS5_7 ⟨rfl, D, cg⟩
 have ex := Chs.one cg
 clear cg
 replace F := F.chs ex
 replace KI := KI.chs ex
 replace KB := KB.chs ex
 replace B4 := B4.chs ex
 replace B5 := B5.chs ex
 replace B7 := B7.chs ex
 replace Ja := Ja.chs ex
 replace Jb := Jb.chs ex
 replace B8 := D; clear D
 replace B8 := B8.congr (cs' := thrV ⟨Aa, 32, ca⟩ nilH nilH) rfl
 refine wl_y (y_fieldAddr (o := 0) (s := 1) (off := 0) (o' := 0) rfl Tryz.underlying29 rfl (by kernel_rfl) rfl rfl) rfl ?_
 refine wl_ef (ef_storeB (i := 0) rfl rfl rfl (by kernel_rfl) B7 (Nat.le_of_ble_eq_true rfl)) rfl ?_
 rintro _ wS5_9 ⟨rfl, D, cg⟩
 have ex := Chs.one cg
 clear cg
 replace F := F.chs ex
 replace KI := KI.chs ex
 replace KB := KB.chs ex
 replace B4 := B4.chs ex
 replace B5 := B5.chs ex
 replace B8 := B8.chs ex
 replace Ja := Ja.chs ex
 replace Jb := Jb.chs ex
 replace B7 := D; clear D
 replace B7 := B7.congr (cs' := packV ⟨Ab, 32, cb⟩ nilH nilH nilH 0 nilH nilH nilH) rfl
 refine wl_nil ?_
 refine wq_then_norm (hK6 ?_)
 refine wc_seq ?_; intro K7 hK7
 refine wc_region ?_
 refine wl_y (y_move rfl) rfl ?_
 refine wl_call Tryz.func81 rfl rfl rfl (secret_any B 32 d sBox seed _ KB.out (by omega) (by decide)) rfl ?_
 rintro e w3 ⟨A3, c3, rfl, H3, ex⟩
 refine ⟨_, rfl, ?_⟩
 replace F := F.ext ex
 replace KI := KI.ext ex
 replace KB := KB.ext ex
 replace B4 := B4.ext ex
 replace B5 := B5.ext ex
 replace B7 := B7.ext ex
 replace B8 := B8.ext ex
 replace Ja := Ja.ext ex
 replace Jb := Jb.ext ex
 skip
 refine wl_call Tryz.func80 rfl rfl rfl (hpair_any A3 32 c3 (kBox seed) _ H3 (by omega)) rfl ?_
 rintro e w4 ⟨Ac, cc, Ad, cd, rfl, Hc, Hd, hcc, ex⟩
 refine ⟨_, rfl, ?_⟩
 replace F := F.ext ex
 replace KI := KI.ext ex
 replace KB := KB.ext ex
 replace B4 := B4.ext ex
 replace B5 := B5.ext ex
 replace B7 := B7.ext ex
 replace B8 := B8.ext ex
 replace Ja := Ja.ext ex
 replace Jb := Jb.ext ex
 have Jc := kp_far (S := [gB8, gB7, gB5, gB4]) Hc (far_cons B8 (show (3 : Nat) < 32 by omega) (far_cons B7 (show (8 : Nat) < 32 by omega) (far_cons B5 (show (3 : Nat) < 32 by omega) (far_cons B4 (show (8 : Nat) < 32 by omega) far_nil)))); have Jd := kp_far (S := [gB8, gB7, gB5, gB4]) Hd (far_cons B8 (show (3 : Nat) < 32 by omega) (far_cons B7 (show (8 : Nat) < 32 by omega) (far_cons B5 (show (3 : Nat) < 32 by omega) (far_cons B4 (show (8 : Nat) < 32 by omega) far_nil))))
 refine wl_y (y_move rfl) rfl ?_
 refine wl_y (y_extract rfl rfl) rfl ?_
 refine wl_y (y_extract rfl rfl) rfl ?_
 refine wl_y (y_fieldAddr (o := 1) (s := 1) (off := 0) (o' := 1) rfl Tryz.underlying51 rfl (by kernel_rfl) rfl rfl) rfl ?_
 refine wl_ef (ef_storeB (i := 1) rfl rfl rfl (by kernel_rfl) B8 (Nat.le_of_ble_eq_true rfl)) rfl ?_
 rintro _ wS6_7 ⟨rfl, D, cg⟩
 have ex := Chs.one cg
 clear cg
 replace F := F.chs ex
 replace KI := KI.chs ex
 replace KB := KB.chs ex
 replace B4 := B4.chs ex
 replace B5 := B5.chs ex
 replace B7 := B7.chs ex
 replace Ja := Ja.chs ex
 replace Jb := Jb.chs ex
 replace Jc := Jc.chs ex
 replace Jd := Jd.chs ex
 replace B8 := D; clear D
 replace B8 := B8.congr (cs' := thrV ⟨Aa, 32, ca⟩ ⟨Ac, 32, cc⟩ nilH) rfl
 refine wl_y (y_fieldAddr (o := 1) (s := 6) (off := 0) (o' := 1) rfl Tryz.underlying29 rfl (by kernel_rfl) rfl rfl) rfl ?_
 refine wl_y (y_fieldAddr (o := 0) (s := 1) (off := 1) (o' := 1) rfl Tryz.underlying27 rfl (by kernel_rfl) rfl rfl) rfl ?_
 refine wl_ef (ef_storeB (i := 1) rfl rfl rfl (by kernel_rfl) B7 (Nat.le_of_ble_eq_true rfl)) rfl ?_
 rintro _ wS6_10 ⟨rfl, D, cg⟩
 have ex := Chs.one cg
 clear cg
 replace F := F.chs ex
 replace KI := KI.chs ex
 replace KB := KB.chs ex
 replace B4 := B4.chs ex
 replace B5 := B5.chs ex
 replace B8 := B8.chs ex
 replace Ja := Ja.chs ex
 replace Jb := Jb.chs ex
 replace Jc := Jc.chs ex
 replace Jd := Jd.chs ex
 replace B7 := D; clear D
 replace B7 := B7.congr (cs' := packV ⟨Ab, 32, cb⟩ ⟨Ad, 32, cd⟩ nilH nilH 0 nilH nilH nilH) rfl
 refine wl_nil ?_
 refine wq_then_norm (hK7 ?_)
 refine wc_seq ?_; intro K8 hK8
 refine wc_region ?_
 refine wl_y (y_move rfl) rfl ?_
 refine wl_call Tryz.func81 rfl rfl rfl (secret_any B 32 d sSign seed _ KB.out (by omega) (by decide)) rfl ?_
 rintro e w5 ⟨Ae, ce, rfl, He, ex⟩
 refine ⟨_, rfl, ?_⟩
 replace F := F.ext ex
 replace KI := KI.ext ex
 replace KB := KB.ext ex
 replace B4 := B4.ext ex
 replace B5 := B5.ext ex
 replace B7 := B7.ext ex
 replace B8 := B8.ext ex
 replace Ja := Ja.ext ex
 replace Jb := Jb.ext ex
 replace Jc := Jc.ext ex
 replace Jd := Jd.ext ex
 have Je : Kp _ [gB8, gB7, gB5, gB4] (fun w => Bs w Ae 32 (kSgn seed)) _ := kp_far (S := [gB8, gB7, gB5, gB4]) He (far_cons B8 (show (3 : Nat) < 32 by omega) (far_cons B7 (show (8 : Nat) < 32 by omega) (far_cons B5 (show (3 : Nat) < 32 by omega) (far_cons B4 (show (8 : Nat) < 32 by omega) far_nil))))
 refine wl_y (y_fieldAddr (o := 2) (s := 1) (off := 0) (o' := 2) rfl Tryz.underlying51 rfl (by kernel_rfl) rfl rfl) rfl ?_
 refine wl_ef (ef_storeB (i := 2) rfl rfl rfl (by kernel_rfl) B8 (Nat.le_of_ble_eq_true rfl)) rfl ?_
 rintro _ wS7_3 ⟨rfl, D, cg⟩
 have ex := Chs.one cg
 clear cg
 replace F := F.chs ex
 replace KI := KI.chs ex
 replace KB := KB.chs ex
 replace B4 := B4.chs ex
 replace B5 := B5.chs ex
 replace B7 := B7.chs ex
 replace Ja := Ja.chs ex
 replace Jb := Jb.chs ex
 replace Jc := Jc.chs ex
 replace Jd := Jd.chs ex
 replace Je := Je.chs ex
 replace B8 := D; clear D
 replace B8 := B8.congr (cs' := thrV ⟨Aa, 32, ca⟩ ⟨Ac, 32, cc⟩ ⟨Ae, 32, ce⟩) rfl
 refine wl_nil ?_
 refine wq_then_norm (hK8 ?_)
 refine wc_seq ?_; intro K9 hK9
 refine wc_region ?_
 refine wl_y (y_fieldAddr (o := 2) (s := 1) (off := 0) (o' := 2) rfl Tryz.underlying51 rfl (by kernel_rfl) rfl rfl) rfl ?_
 refine wl_y (y_load1 rfl Tryz.underlying23 rfl (B8.get (i := 2) rfl)) rfl ?_
 refine wl_call Tryz.func30 rfl rfl rfl (Public_t (c := ce) Je.out (kSgn_length seed)) rfl ?_
 rintro e w6 ⟨Ag, cg, rfl, Hg, hcg, ex⟩
 refine ⟨_, rfl, ?_⟩
 replace F := F.ext ex
 replace KI := KI.ext ex
 replace KB := KB.ext ex
 replace B4 := B4.ext ex
 replace B5 := B5.ext ex
 replace B7 := B7.ext ex
 replace B8 := B8.ext ex
 replace Ja := Ja.ext ex
 replace Jb := Jb.ext ex
 replace Jc := Jc.ext ex
 replace Jd := Jd.ext ex
 replace Je := Je.ext ex
 have Jg := kp_far (S := [gB8, gB7, gB5, gB4]) Hg (far_cons B8 (show (3 : Nat) < 32 by omega) (far_cons B7 (show (8 : Nat) < 32 by omega) (far_cons B5 (show (3 : Nat) < 32 by omega) (far_cons B4 (show (8 : Nat) < 32 by omega) far_nil))))
 refine wl_y (y_move rfl) rfl ?_
 refine wl_y (y_extract rfl rfl) rfl ?_
 refine wl_y (y_extract rfl rfl) rfl ?_
 refine wl_y (y_fieldAddr (o := 1) (s := 6) (off := 0) (o' := 1) rfl Tryz.underlying29 rfl (by kernel_rfl) rfl rfl) rfl ?_
 refine wl_y (y_fieldAddr (o := 1) (s := 1) (off := 1) (o' := 2) rfl Tryz.underlying27 rfl (by kernel_rfl) rfl rfl) rfl ?_
 refine wl_ef (ef_storeB (i := 2) rfl rfl rfl (by kernel_rfl) B7 (Nat.le_of_ble_eq_true rfl)) rfl ?_
 rintro _ wS8_8 ⟨rfl, D, cg⟩
 have ex := Chs.one cg
 clear cg
 replace F := F.chs ex
 replace KI := KI.chs ex
 replace KB := KB.chs ex
 replace B4 := B4.chs ex
 replace B5 := B5.chs ex
 replace B8 := B8.chs ex
 replace Ja := Ja.chs ex
 replace Jb := Jb.chs ex
 replace Jc := Jc.chs ex
 replace Jd := Jd.chs ex
 replace Je := Je.chs ex
 replace Jg := Jg.chs ex
 replace B7 := D; clear D
 replace B7 := B7.congr (cs' := packV ⟨Ab, 32, cb⟩ ⟨Ad, 32, cd⟩ ⟨Ag, 32, cg⟩ nilH 0 nilH nilH nilH) rfl
 refine wl_nil ?_
 refine wq_then_norm (hK9 ?_)
 refine wc_seq ?_; intro K10 hK10
 refine wc_region ?_
 refine wl_y (y_move rfl) rfl ?_
 refine wl_y (y_fieldAddr (o := 1) (s := 6) (off := 0) (o' := 1) rfl Tryz.underlying29 rfl (by kernel_rfl) rfl rfl) rfl ?_
 refine wl_y (y_fieldAddr (o := 2) (s := 1) (off := 1) (o' := 3) rfl Tryz.underlying27 rfl (by kernel_rfl) rfl rfl) rfl ?_
 refine wl_ef (ef_storeB (i := 3) rfl rfl rfl (by kernel_rfl) B7 (Nat.le_of_ble_eq_true rfl)) rfl ?_
 rintro _ wS9_3 ⟨rfl, D, cg⟩
 have ex := Chs.one cg
 clear cg
 replace F := F.chs ex
 replace KI := KI.chs ex
 replace KB := KB.chs ex
 replace B4 := B4.chs ex
 replace B5 := B5.chs ex
 replace B8 := B8.chs ex
 replace Ja := Ja.chs ex
 replace Jb := Jb.chs ex
 replace Jc := Jc.chs ex
 replace Jd := Jd.chs ex
 replace Je := Je.chs ex
 replace Jg := Jg.chs ex
 replace B7 := D; clear D
 replace B7 := B7.congr (cs' := packV ⟨Ab, 32, cb⟩ ⟨Ad, 32, cd⟩ ⟨Ag, 32, cg⟩ ⟨A, n, c⟩ 0 nilH nilH nilH) rfl
 refine wl_y (y_fieldAddr (o := 1) (s := 6) (off := 0) (o' := 1) rfl Tryz.underlying29 rfl (by kernel_rfl) rfl rfl) rfl ?_
 refine wl_y (y_fieldAddr (o := 3) (s := 1) (off := 1) (o' := 4) rfl Tryz.underlying27 rfl (by kernel_rfl) rfl rfl) rfl ?_
 refine wl_ef (ef_storeB (i := 4) rfl rfl rfl (by kernel_rfl) B7 (Nat.le_of_ble_eq_true rfl)) rfl ?_
 rintro _ wS9_6 ⟨rfl, D, cg⟩
 have ex := Chs.one cg
 clear cg
 replace F := F.chs ex
 replace KI := KI.chs ex
 replace KB := KB.chs ex
 replace B4 := B4.chs ex
 replace B5 := B5.chs ex
 replace B8 := B8.chs ex
 replace Ja := Ja.chs ex
 replace Jb := Jb.chs ex
 replace Jc := Jc.chs ex
 replace Jd := Jd.chs ex
 replace Je := Je.chs ex
 replace Jg := Jg.chs ex
 replace B7 := D; clear D
 replace B7 := B7.congr (cs' := packV ⟨Ab, 32, cb⟩ ⟨Ad, 32, cd⟩ ⟨Ag, 32, cg⟩ ⟨A, n, c⟩ 1 nilH nilH nilH) rfl
 refine wl_nil ?_
 refine wq_then_norm (hK10 ?_)
 refine wc_seq ?_; intro K11 hK11
 refine wc_region ?_
 refine wl_y (y_fieldAddr (o := 1) (s := 6) (off := 0) (o' := 1) rfl Tryz.underlying29 rfl (by kernel_rfl) rfl rfl) rfl ?_
 refine wl_y (y_loadx (o := 1) (s := 6) rfl Tryz.underlying27 rfl (by kernel_rfl) B7 rfl) rfl ?_
 refine wl_y (y_fieldAddr (o := 2) (s := 1) (off := 0) (o' := 2) rfl Tryz.underlying51 rfl (by kernel_rfl) rfl rfl) rfl ?_
 refine wl_y (y_load1 rfl Tryz.underlying23 rfl (B8.get (i := 2) rfl)) rfl ?_
 have HL : LeafAt _ _ (mkL0 ident seed) := ⟨⟨Ad, 32, cd⟩, ⟨Ag, 32, cg⟩, ⟨A, n, c⟩, nilH, nilH, rfl, (by show 1 < 256; omega), Jd.out, Jg.out, KI.out, Bs.nil _ _, Bs.nil _ _⟩
 have z10 := F.size
 have m7 := B7.lt; have m8 := B8.lt; have m4 := B4.lt; have m5 := B5.lt
 refine wl_call Tryz.func82 rfl rfl rfl (signLeaf_new (z := 0) _ HL (mkL0_fit seed (by omega)) (mkL0_le seed (by omega)) Je.out (show 32 ≤ 100 by omega) (Bs.nil _ none) (Nat.zero_le 100) (mkL1_eq seed (by omega) (by omega))) rfl ?_
 rintro e w7 ⟨cs7, rfl, LA, LF, ex⟩
 refine ⟨_, rfl, ?_⟩
 replace F := F.ext ex
 replace KI := KI.ext ex
 replace KB := KB.ext ex
 replace B4 := B4.ext ex
 replace B5 := B5.ext ex
 replace B7 := B7.ext ex
 replace B8 := B8.ext ex
 replace Ja := Ja.ext ex
 replace Jb := Jb.ext ex
 replace Jc := Jc.ext ex
 replace Jd := Jd.ext ex
 replace Je := Je.ext ex
 replace Jg := Jg.ext ex
 obtain ⟨i0, i1, i2, i4, i5, rfl, _, ⟨l0, _⟩, ⟨l1, _⟩, ⟨l2, _⟩, ⟨l4, _⟩, ⟨l5, _⟩⟩ := LA; have n0 : i0.n = 32 := (by rw [← l0.1]; exact (mkL1_ok seed (by omega) (by omega)).1); have n1 : i1.n = 32 := (by rw [← l1.1]; exact (mkL1_ok seed (by omega) (by omega)).2.1); have n5 : i5.n = 64 := (by rw [← l5.1]; exact (mkL1_ok seed (by omega) (by omega)).2.2.1); have n4 : i4.n = 0 := (by rw [← l4.1]; rfl); have L0 := kp_far (S := [gB8, gB7, gB5, gB4]) l0 (by rw [n0]; exact (far_cons B8 (show (3 : Nat) < 32 by omega) (far_cons B7 (show (8 : Nat) < 32 by omega) (far_cons B5 (show (3 : Nat) < 32 by omega) (far_cons B4 (show (8 : Nat) < 32 by omega) far_nil))))); have L1 := kp_far (S := [gB8, gB7, gB5, gB4]) l1 (by rw [n1]; exact (far_cons B8 (show (3 : Nat) < 32 by omega) (far_cons B7 (show (8 : Nat) < 32 by omega) (far_cons B5 (show (3 : Nat) < 32 by omega) (far_cons B4 (show (8 : Nat) < 32 by omega) far_nil))))); have L5 := kp_far (S := [gB8, gB7, gB5, gB4]) l5 (by rw [n5]; exact (far_cons B8 (show (3 : Nat) < 64 by omega) (far_cons B7 (show (8 : Nat) < 64 by omega) (far_cons B5 (show (3 : Nat) < 64 by omega) (far_cons B4 (show (8 : Nat) < 64 by omega) far_nil))))); have L4 : Kp w7.heap.size [gB8, gB7, gB5, gB4] (fun w => BsH w i4 (mkL1 ident seed).parent) w7 := Kp.bs l4 (fun h => by omega); have L2 := (LF _ _ _ rfl).kp (S := [gB8, gB7, gB5, gB4]) (by simp; omega); clear LF l0 l1 l2 l4 l5
 refine wl_y (y_move rfl) rfl ?_
 refine wl_y (y_extract rfl rfl) rfl ?_
 refine wl_y (y_extract rfl rfl) rfl ?_
 refine wl_ef (ef_alloc (Z := #[.slice none 0 0, .slice none 0 0, .slice none 0 0, .int .u8 0, .slice none 0 0, .slice none 0 0]) (by kernel_rfl)) rfl ?_
 rintro _ wB9 ⟨gB9, rfl, B9, hgB9, ex⟩
 have lB9 := B9.lt; have zB9 := ex.size
 have nB4_9 : gB4 < gB9 := Nat.lt_of_lt_of_le B4.lt hgB9
 have nB5_9 : gB5 < gB9 := Nat.lt_of_lt_of_le B5.lt hgB9
 have nB7_9 : gB7 < gB9 := Nat.lt_of_lt_of_le B7.lt hgB9
 have nB8_9 : gB8 < gB9 := Nat.lt_of_lt_of_le B8.lt hgB9
 replace F := F.grow ex hgB9
 replace KI := KI.grow ex hgB9
 replace KB := KB.grow ex hgB9
 replace B4 := B4.grow ex hgB9
 replace B5 := B5.grow ex hgB9
 replace B7 := B7.grow ex hgB9
 replace B8 := B8.grow ex hgB9
 replace Ja := Ja.grow ex hgB9
 replace Jb := Jb.grow ex hgB9
 replace Jc := Jc.grow ex hgB9
 replace Jd := Jd.grow ex hgB9
 replace Je := Je.grow ex hgB9
 replace Jg := Jg.grow ex hgB9
 replace L0 := L0.grow ex hgB9
 replace L1 := L1.grow ex hgB9
 replace L2 := L2.grow ex hgB9
 replace L4 := L4.grow ex hgB9
 replace L5 := L5.grow ex hgB9
 refine wl_ef (ef_storeP (o := 0) rfl rfl (by kernel_rfl) B9 (Nat.le_of_ble_eq_true rfl) (all_ones rfl)) rfl ?_
 rintro _ wS10_9 ⟨rfl, D, cg⟩
 have ex := Chs.one cg
 clear cg
 replace F := F.chs ex
 replace KI := KI.chs ex
 replace KB := KB.chs ex
 replace B4 := B4.chs ex
 replace B5 := B5.chs ex
 replace B7 := B7.chs ex
 replace B8 := B8.chs ex
 replace Ja := Ja.chs ex
 replace Jb := Jb.chs ex
 replace Jc := Jc.chs ex
 replace Jd := Jd.chs ex
 replace Je := Je.chs ex
 replace Jg := Jg.chs ex
 replace L0 := L0.chs ex
 replace L1 := L1.chs ex
 replace L2 := L2.chs ex
 replace L4 := L4.chs ex
 replace L5 := L5.chs ex
 replace B9 := D; clear D
 refine wl_y (y_assign rfl) rfl ?_
 refine wl_nil ?_
 refine wq_then_norm (hK11 ?_)
 refine wc_seq ?_; intro K12 hK12
 refine wc_seq ?_; intro K13 hK13
 refine wc_region ?_
 refine wl_y (y_move rfl) rfl ?_
 refine wl_y (Y.as (y_neq rfl rfl) (congrArg Value.bool (decide_eq_false (by decide)))) rfl ?_
 refine wl_nil ?_
 refine wq_then_norm (hK13 ?_)
 refine wc_false rfl rfl ?_
 refine wc_skip ?_
 refine wq_then_norm (hK12 ?_)
 refine wc_seq ?_; intro K14 hK14
 refine wc_drawJ [(3, [gB7]), (5, [gB7])] (by kernel_rfl) 6 rfl ?_; intro wd13 ex hd13
 replace F := F.ext ex
 replace KI := KI.ext ex
 replace KB := KB.ext ex
 replace B4 := B4.ext ex
 replace B5 := B5.ext ex
 replace B7 := B7.ext ex
 replace B8 := B8.ext ex
 replace Ja := Ja.ext ex
 replace Jb := Jb.ext ex
 replace Jc := Jc.ext ex
 replace Jd := Jd.ext ex
 replace Je := Je.ext ex
 replace Jg := Jg.ext ex
 replace L0 := L0.ext ex
 replace L1 := L1.ext ex
 replace L2 := L2.ext ex
 replace L4 := L4.ext ex
 replace L5 := L5.ext ex
 replace B9 := B9.ext ex
 refine wj_y 0 [] rfl (by kernel_rfl) (fun wr (cr : Chs ([]) _ wr) => y_loadx (o := 0) (s := 6) rfl Tryz.underlying27 rfl (by kernel_rfl) (B9.chs cr) rfl) rfl ?_
 refine wj_y 2 [] rfl (by kernel_rfl) (fun wr (cr : Chs ([]) _ wr) => y_fieldAddr (o := 1) (s := 6) (off := 0) (o' := 1) rfl Tryz.underlying29 rfl (by kernel_rfl) rfl rfl) rfl ?_
 refine wj_two 1 3 (by kernel_rfl) ?_ ?_
 ·skip
  have q7 := B7.lt
  have q8 := B8.lt
  have q4 := B4.lt
  have q5 := B5.lt
  refine oj_ef rfl (ef_make (n := 64) (z := .int .u8 0) (bytes := 1) rfl rfl Tryz.underlying23 (by kernel_rfl) rfl rfl rfl rfl (by omega) (by omega)) rfl ?_
  rintro _ wm ⟨gm, rfl, Dm, hgm, ex⟩
  refine ⟨Chs.of ex _, ?_⟩
  replace F := F.ext ex
  replace KI := KI.ext ex
  replace KB := KB.ext ex
  replace B4 := B4.ext ex
  replace B5 := B5.ext ex
  replace B7 := B7.ext ex
  replace B8 := B8.ext ex
  replace Ja := Ja.ext ex
  replace Jb := Jb.ext ex
  replace Jc := Jc.ext ex
  replace Jd := Jd.ext ex
  replace Je := Je.ext ex
  replace Jg := Jg.ext ex
  replace L0 := L0.ext ex
  replace L1 := L1.ext ex
  replace L2 := L2.ext ex
  replace L4 := L4.ext ex
  replace L5 := L5.ext ex
  replace B9 := B9.ext ex
  have Jm : Kp wm.heap.size [gB8, gB7, gB5, gB4] (fun w => Bs w (some ⟨gm, 0, none⟩) 64 (List.replicate 64 0)) wm := Kp.bs (zeros64 Dm (by rfl)) (fun _ g hg o e => by injection e with e; injection e with e _ _; simp at hg; omega)
  refine wj_one 3 (by kernel_rfl) ?_; refine oj_ef rfl (ef_storeP (o := 1) rfl rfl (by kernel_rfl) B7 (Nat.le_of_ble_eq_true rfl) (all_ones rfl)) rfl ?_
  rintro _ wS13_3 ⟨rfl, D, cg⟩
  have ex := Chs.one cg
  clear cg
  refine ⟨ex, ?_⟩
  replace F := F.chs ex
  replace KI := KI.chs ex
  replace KB := KB.chs ex
  replace B4 := B4.chs ex
  replace B5 := B5.chs ex
  replace B8 := B8.chs ex
  replace Ja := Ja.chs ex
  replace Jb := Jb.chs ex
  replace Jc := Jc.chs ex
  replace Jd := Jd.chs ex
  replace Je := Je.chs ex
  replace Jg := Jg.chs ex
  replace L0 := L0.chs ex
  replace L1 := L1.chs ex
  replace L2 := L2.chs ex
  replace L4 := L4.chs ex
  replace L5 := L5.chs ex
  replace B9 := B9.chs ex
  replace Jm := Jm.chs ex
  replace B7 := D; clear D
  refine wj_y 4 [] rfl (by kernel_rfl) (fun wr (cr : Chs ([]) _ wr) => y_fieldAddr (o := 7) (s := 1) (off := 0) (o' := 7) rfl Tryz.underlying29 rfl (by kernel_rfl) rfl rfl) rfl ?_
  refine wj_one 5 (by kernel_rfl) ?_; refine oj_ef rfl (ef_storeB (i := 7) rfl rfl rfl (by kernel_rfl) B7 (Nat.le_of_ble_eq_true rfl)) rfl ?_
  rintro _ wS13_5 ⟨rfl, D, cg⟩
  have ex := Chs.one cg
  clear cg
  refine ⟨ex, ?_⟩
  replace F := F.chs ex
  replace KI := KI.chs ex
  replace KB := KB.chs ex
  replace B4 := B4.chs ex
  replace B5 := B5.chs ex
  replace B8 := B8.chs ex
  replace Ja := Ja.chs ex
  replace Jb := Jb.chs ex
  replace Jc := Jc.chs ex
  replace Jd := Jd.chs ex
  replace Je := Je.chs ex
  replace Jg := Jg.chs ex
  replace L0 := L0.chs ex
  replace L1 := L1.chs ex
  replace L2 := L2.chs ex
  replace L4 := L4.chs ex
  replace L5 := L5.chs ex
  replace B9 := B9.chs ex
  replace Jm := Jm.chs ex
  replace B7 := D; clear D
  refine wj_done (by kernel_rfl) ?_
  refine wq_nop ?_
  refine wq_then_norm (hK14 ?_)
  refine wc_seq ?_; intro K15 hK15
  replace B7 := B7.congr (cs' := packV ⟨Ab, 32, cb⟩ i0 i1 i2 (mkL1 ident seed).src i4 i5 ⟨some ⟨gm, 0, none⟩, 64, 64⟩) rfl
  refine wc_region ?_
  refine wl_y (y_loadx (o := 0) (s := 8) rfl Tryz.underlying29 rfl (by kernel_rfl) B7 rfl) rfl ?_
  have HP : PackAt _ _ (mkP0 ident seed) := ⟨⟨Ab, 32, cb⟩, i0, i1, i2, i4, i5, ⟨some ⟨gm, 0, none⟩, 64, 64⟩, rfl, (by show 1 < 256; omega), Jb.out, L0.out, L1.out, L2.out, L4.out, L5.out, Jm.out⟩
  refine wl_call Tryz.func83 rfl rfl rfl (PackageText_any _ HP (okPack_small (mkP0_ok seed (by omega) (by omega))).fit) rfl ?_
  rintro e wt ⟨At, kt, ct, zt, rfl, Tt, hkt, ex⟩
  refine ⟨_, rfl, ?_⟩
  replace F := F.ext ex
  replace KI := KI.ext ex
  replace KB := KB.ext ex
  replace B4 := B4.ext ex
  replace B5 := B5.ext ex
  replace B7 := B7.ext ex
  replace B8 := B8.ext ex
  replace Ja := Ja.ext ex
  replace Jb := Jb.ext ex
  replace Jc := Jc.ext ex
  replace Jd := Jd.ext ex
  replace Je := Je.ext ex
  replace Jg := Jg.ext ex
  replace L0 := L0.ext ex
  replace L1 := L1.ext ex
  replace L2 := L2.ext ex
  replace L4 := L4.ext ex
  replace L5 := L5.ext ex
  replace B9 := B9.ext ex
  replace Jm := Jm.ext ex
  have Ht := (Tt.1 (mkP0_ok seed (by omega) (by omega))).2; have hlt := Ht.1; have hls := packT_sm (okPack_small (mkP0_ok (ident := ident) seed (by omega) (by omega)))
  refine wl_y (y_move rfl) rfl ?_
  refine wl_y (y_extract rfl rfl) rfl ?_
  refine wl_y (y_extract rfl rfl) rfl ?_
  refine wl_y (y_assign rfl) rfl ?_
  refine wl_y (y_assign rfl) rfl ?_
  refine wl_nil ?_
  refine wq_then_norm (hK15 ?_)
  refine wc_seq ?_; intro K16 hK16
  refine wc_region ?_
  refine wl_y (y_fieldAddr (o := 2) (s := 1) (off := 0) (o' := 2) rfl Tryz.underlying51 rfl (by kernel_rfl) rfl rfl) rfl ?_
  refine wl_y (y_load1 rfl Tryz.underlying23 rfl (B8.get (i := 2) rfl)) rfl ?_
  refine wl_y (y_move rfl) rfl ?_
  refine wl_call Tryz.func29 rfl rfl rfl (Label_t (s := labP) (c := ce) (d := ct) Je.out Ht (kSgn_length seed) labP_size (by omega)) rfl ?_
  rintro e wl ⟨Al, cl, rfl, Hl, hcl, ex⟩
  refine ⟨_, rfl, ?_⟩
  replace F := F.ext ex
  replace KI := KI.ext ex
  replace KB := KB.ext ex
  replace B4 := B4.ext ex
  replace B5 := B5.ext ex
  replace B7 := B7.ext ex
  replace B8 := B8.ext ex
  replace Ja := Ja.ext ex
  replace Jb := Jb.ext ex
  replace Jc := Jc.ext ex
  replace Jd := Jd.ext ex
  replace Je := Je.ext ex
  replace Jg := Jg.ext ex
  replace L0 := L0.ext ex
  replace L1 := L1.ext ex
  replace L2 := L2.ext ex
  replace L4 := L4.ext ex
  replace L5 := L5.ext ex
  replace B9 := B9.ext ex
  replace Jm := Jm.ext ex
  replace Ht := Ht.ext ex
  have Jl := kp_far (S := [gB8, gB7, gB5, gB4]) Hl (far_cons B8 (show (3 : Nat) < 64 by omega) (far_cons B7 (show (8 : Nat) < 64 by omega) (far_cons B5 (show (3 : Nat) < 64 by omega) (far_cons B4 (show (8 : Nat) < 64 by omega) far_nil))))
  refine wl_y (y_move rfl) rfl ?_
  refine wl_y (y_extract rfl rfl) rfl ?_
  refine wl_y (y_extract rfl rfl) rfl ?_
  refine wl_y (y_fieldAddr (o := 7) (s := 1) (off := 0) (o' := 7) rfl Tryz.underlying29 rfl (by kernel_rfl) rfl rfl) rfl ?_
  refine wl_ef (ef_storeB (i := 7) rfl rfl rfl (by kernel_rfl) B7 (Nat.le_of_ble_eq_true rfl)) rfl ?_
  rintro _ wS15_8 ⟨rfl, D, cg⟩
  have ex := Chs.one cg
  clear cg
  replace F := F.chs ex
  replace KI := KI.chs ex
  replace KB := KB.chs ex
  replace B4 := B4.chs ex
  replace B5 := B5.chs ex
  replace B8 := B8.chs ex
  replace Ja := Ja.chs ex
  replace Jb := Jb.chs ex
  replace Jc := Jc.chs ex
  replace Jd := Jd.chs ex
  replace Je := Je.chs ex
  replace Jg := Jg.chs ex
  replace L0 := L0.chs ex
  replace L1 := L1.chs ex
  replace L2 := L2.chs ex
  replace L4 := L4.chs ex
  replace L5 := L5.chs ex
  replace B9 := B9.chs ex
  replace Jm := Jm.chs ex
  replace Jl := Jl.chs ex
  replace B7 := D; clear D
  replace B7 := B7.congr (cs' := packV ⟨Ab, 32, cb⟩ i0 i1 i2 (mkL1 ident seed).src i4 i5 ⟨Al, 64, cl⟩) rfl
  refine wl_nil ?_
  refine wq_then_norm (hK16 ?_)
  refine wc_seq ?_; intro K17 hK17
  refine wc_drawJ [(2, [gB4]), (3, [gB5])] (by kernel_rfl) 5 rfl ?_; intro wd16 ex hd16
  replace F := F.ext ex
  replace KI := KI.ext ex
  replace KB := KB.ext ex
  replace B4 := B4.ext ex
  replace B5 := B5.ext ex
  replace B7 := B7.ext ex
  replace B8 := B8.ext ex
  replace Ja := Ja.ext ex
  replace Jb := Jb.ext ex
  replace Jc := Jc.ext ex
  replace Jd := Jd.ext ex
  replace Je := Je.ext ex
  replace Jg := Jg.ext ex
  replace L0 := L0.ext ex
  replace L1 := L1.ext ex
  replace L2 := L2.ext ex
  replace L4 := L4.ext ex
  replace L5 := L5.ext ex
  replace B9 := B9.ext ex
  replace Jm := Jm.ext ex
  replace Jl := Jl.ext ex
  refine wj_y 0 [] rfl (by kernel_rfl) (fun wr (cr : Chs ([]) _ wr) => y_loadx (o := 0) (s := 8) rfl Tryz.underlying29 rfl (by kernel_rfl) (B7.chs cr) rfl) rfl ?_
  refine wj_y 1 [2] rfl (by kernel_rfl) (fun wr (cr : Chs ([gB4]) _ wr) => y_loadx (o := 0) (s := 3) rfl Tryz.underlying51 rfl (by kernel_rfl) (B8.chs cr) rfl) rfl ?_
  refine wj_one 2 (by kernel_rfl) ?_; refine oj_ef rfl (ef_storeP (o := 0) rfl rfl (by kernel_rfl) B4 (Nat.le_of_ble_eq_true rfl) (all_ones rfl)) rfl ?_
  rintro _ wS16_2 ⟨rfl, D, cg⟩
  have ex := Chs.one cg
  clear cg
  refine ⟨ex, ?_⟩
  replace F := F.chs ex
  replace KI := KI.chs ex
  replace KB := KB.chs ex
  replace B5 := B5.chs ex
  replace B7 := B7.chs ex
  replace B8 := B8.chs ex
  replace Ja := Ja.chs ex
  replace Jb := Jb.chs ex
  replace Jc := Jc.chs ex
  replace Jd := Jd.chs ex
  replace Je := Je.chs ex
  replace Jg := Jg.chs ex
  replace L0 := L0.chs ex
  replace L1 := L1.chs ex
  replace L2 := L2.chs ex
  replace L4 := L4.chs ex
  replace L5 := L5.chs ex
  replace B9 := B9.chs ex
  replace Jm := Jm.chs ex
  replace Jl := Jl.chs ex
  replace B4 := D; clear D
  refine wj_one 3 (by kernel_rfl) ?_; refine oj_ef rfl (ef_storeP (o := 0) rfl rfl (by kernel_rfl) B5 (Nat.le_of_ble_eq_true rfl) (all_ones rfl)) rfl ?_
  rintro _ wS16_3 ⟨rfl, D, cg⟩
  have ex := Chs.one cg
  clear cg
  refine ⟨ex, ?_⟩
  replace F := F.chs ex
  replace KI := KI.chs ex
  replace KB := KB.chs ex
  replace B4 := B4.chs ex
  replace B7 := B7.chs ex
  replace B8 := B8.chs ex
  replace Ja := Ja.chs ex
  replace Jb := Jb.chs ex
  replace Jc := Jc.chs ex
  replace Jd := Jd.chs ex
  replace Je := Je.chs ex
  replace Jg := Jg.chs ex
  replace L0 := L0.chs ex
  replace L1 := L1.chs ex
  replace L2 := L2.chs ex
  replace L4 := L4.chs ex
  replace L5 := L5.chs ex
  replace B9 := B9.chs ex
  replace Jm := Jm.chs ex
  replace Jl := Jl.chs ex
  replace B5 := D; clear D
  refine wj_y 4 [] rfl (by kernel_rfl) (fun wr (cr : Chs ([]) _ wr) => y_assign rfl) rfl ?_
  refine wj_done (by kernel_rfl) ?_
  refine wq_nop ?_
  replace B4 := B4.congr (cs' := packV ⟨Ab, 32, cb⟩ i0 i1 i2 (mkL1 ident seed).src i4 i5 ⟨Al, 64, cl⟩) rfl
  replace B5 := B5.congr (cs' := thrV ⟨Aa, 32, ca⟩ ⟨Ac, 32, cc⟩ ⟨Ae, 32, ce⟩) rfl
  refine wq_then_norm (hK17 ?_)
  refine wc_ret ?_
  refine hret rfl rfl rfl B4 rfl B5 rfl ?_
  exact ⟨_, _, rfl, ⟨⟨Ab, 32, cb⟩, i0, i1, i2, i4, i5, ⟨Al, 64, cl⟩, rfl, (by show 1 < 256; omega), Jb.out, L0.out, L1.out, L2.out, L4.out, L5.out, Jl.out⟩, ⟨⟨Aa, 32, ca⟩, ⟨Ac, 32, cc⟩, ⟨Ae, 32, ce⟩, rfl, Ja.out, Jc.out, Je.out⟩, F.toExt (by simp; omega)⟩
 ·skip
  refine oj_ef rfl (ef_storeP (o := 1) rfl rfl (by kernel_rfl) B7 (Nat.le_of_ble_eq_true rfl) (all_ones rfl)) rfl ?_
  rintro _ wS13_3 ⟨rfl, D, cg⟩
  have ex := Chs.one cg
  clear cg
  refine ⟨ex, ?_⟩
  replace F := F.chs ex
  replace KI := KI.chs ex
  replace KB := KB.chs ex
  replace B4 := B4.chs ex
  replace B5 := B5.chs ex
  replace B8 := B8.chs ex
  replace Ja := Ja.chs ex
  replace Jb := Jb.chs ex
  replace Jc := Jc.chs ex
  replace Jd := Jd.chs ex
  replace Je := Je.chs ex
  replace Jg := Jg.chs ex
  replace L0 := L0.chs ex
  replace L1 := L1.chs ex
  replace L2 := L2.chs ex
  replace L4 := L4.chs ex
  replace L5 := L5.chs ex
  replace B9 := B9.chs ex
  replace B7 := D; clear D
  have q7 := B7.lt
  have q8 := B8.lt
  have q4 := B4.lt
  have q5 := B5.lt
  refine wj_one 1 (by kernel_rfl) ?_; refine oj_ef rfl (ef_make (n := 64) (z := .int .u8 0) (bytes := 1) rfl rfl Tryz.underlying23 (by kernel_rfl) rfl rfl rfl rfl (by omega) (by omega)) rfl ?_
  rintro _ wm ⟨gm, rfl, Dm, hgm, ex⟩
  refine ⟨Chs.of ex _, ?_⟩
  replace F := F.ext ex
  replace KI := KI.ext ex
  replace KB := KB.ext ex
  replace B4 := B4.ext ex
  replace B5 := B5.ext ex
  replace B7 := B7.ext ex
  replace B8 := B8.ext ex
  replace Ja := Ja.ext ex
  replace Jb := Jb.ext ex
  replace Jc := Jc.ext ex
  replace Jd := Jd.ext ex
  replace Je := Je.ext ex
  replace Jg := Jg.ext ex
  replace L0 := L0.ext ex
  replace L1 := L1.ext ex
  replace L2 := L2.ext ex
  replace L4 := L4.ext ex
  replace L5 := L5.ext ex
  replace B9 := B9.ext ex
  have Jm : Kp wm.heap.size [gB8, gB7, gB5, gB4] (fun w => Bs w (some ⟨gm, 0, none⟩) 64 (List.replicate 64 0)) wm := Kp.bs (zeros64 Dm (by rfl)) (fun _ g hg o e => by injection e with e; injection e with e _ _; simp at hg; omega)
  refine wj_y 4 [] rfl (by kernel_rfl) (fun wr (cr : Chs ([]) _ wr) => y_fieldAddr (o := 7) (s := 1) (off := 0) (o' := 7) rfl Tryz.underlying29 rfl (by kernel_rfl) rfl rfl) rfl ?_
  refine wj_one 5 (by kernel_rfl) ?_; refine oj_ef rfl (ef_storeB (i := 7) rfl rfl rfl (by kernel_rfl) B7 (Nat.le_of_ble_eq_true rfl)) rfl ?_
  rintro _ wS13_5 ⟨rfl, D, cg⟩
  have ex := Chs.one cg
  clear cg
  refine ⟨ex, ?_⟩
  replace F := F.chs ex
  replace KI := KI.chs ex
  replace KB := KB.chs ex
  replace B4 := B4.chs ex
  replace B5 := B5.chs ex
  replace B8 := B8.chs ex
  replace Ja := Ja.chs ex
  replace Jb := Jb.chs ex
  replace Jc := Jc.chs ex
  replace Jd := Jd.chs ex
  replace Je := Je.chs ex
  replace Jg := Jg.chs ex
  replace L0 := L0.chs ex
  replace L1 := L1.chs ex
  replace L2 := L2.chs ex
  replace L4 := L4.chs ex
  replace L5 := L5.chs ex
  replace B9 := B9.chs ex
  replace Jm := Jm.chs ex
  replace B7 := D; clear D
  refine wj_done (by kernel_rfl) ?_
  refine wq_nop ?_
  refine wq_then_norm (hK14 ?_)
  refine wc_seq ?_; intro K18 hK18
  replace B7 := B7.congr (cs' := packV ⟨Ab, 32, cb⟩ i0 i1 i2 (mkL1 ident seed).src i4 i5 ⟨some ⟨gm, 0, none⟩, 64, 64⟩) rfl
  refine wc_region ?_
  refine wl_y (y_loadx (o := 0) (s := 8) rfl Tryz.underlying29 rfl (by kernel_rfl) B7 rfl) rfl ?_
  have HP : PackAt _ _ (mkP0 ident seed) := ⟨⟨Ab, 32, cb⟩, i0, i1, i2, i4, i5, ⟨some ⟨gm, 0, none⟩, 64, 64⟩, rfl, (by show 1 < 256; omega), Jb.out, L0.out, L1.out, L2.out, L4.out, L5.out, Jm.out⟩
  refine wl_call Tryz.func83 rfl rfl rfl (PackageText_any _ HP (okPack_small (mkP0_ok seed (by omega) (by omega))).fit) rfl ?_
  rintro e wt ⟨At, kt, ct, zt, rfl, Tt, hkt, ex⟩
  refine ⟨_, rfl, ?_⟩
  replace F := F.ext ex
  replace KI := KI.ext ex
  replace KB := KB.ext ex
  replace B4 := B4.ext ex
  replace B5 := B5.ext ex
  replace B7 := B7.ext ex
  replace B8 := B8.ext ex
  replace Ja := Ja.ext ex
  replace Jb := Jb.ext ex
  replace Jc := Jc.ext ex
  replace Jd := Jd.ext ex
  replace Je := Je.ext ex
  replace Jg := Jg.ext ex
  replace L0 := L0.ext ex
  replace L1 := L1.ext ex
  replace L2 := L2.ext ex
  replace L4 := L4.ext ex
  replace L5 := L5.ext ex
  replace B9 := B9.ext ex
  replace Jm := Jm.ext ex
  have Ht := (Tt.1 (mkP0_ok seed (by omega) (by omega))).2; have hlt := Ht.1; have hls := packT_sm (okPack_small (mkP0_ok (ident := ident) seed (by omega) (by omega)))
  refine wl_y (y_move rfl) rfl ?_
  refine wl_y (y_extract rfl rfl) rfl ?_
  refine wl_y (y_extract rfl rfl) rfl ?_
  refine wl_y (y_assign rfl) rfl ?_
  refine wl_y (y_assign rfl) rfl ?_
  refine wl_nil ?_
  refine wq_then_norm (hK18 ?_)
  refine wc_seq ?_; intro K19 hK19
  refine wc_region ?_
  refine wl_y (y_fieldAddr (o := 2) (s := 1) (off := 0) (o' := 2) rfl Tryz.underlying51 rfl (by kernel_rfl) rfl rfl) rfl ?_
  refine wl_y (y_load1 rfl Tryz.underlying23 rfl (B8.get (i := 2) rfl)) rfl ?_
  refine wl_y (y_move rfl) rfl ?_
  refine wl_call Tryz.func29 rfl rfl rfl (Label_t (s := labP) (c := ce) (d := ct) Je.out Ht (kSgn_length seed) labP_size (by omega)) rfl ?_
  rintro e wl ⟨Al, cl, rfl, Hl, hcl, ex⟩
  refine ⟨_, rfl, ?_⟩
  replace F := F.ext ex
  replace KI := KI.ext ex
  replace KB := KB.ext ex
  replace B4 := B4.ext ex
  replace B5 := B5.ext ex
  replace B7 := B7.ext ex
  replace B8 := B8.ext ex
  replace Ja := Ja.ext ex
  replace Jb := Jb.ext ex
  replace Jc := Jc.ext ex
  replace Jd := Jd.ext ex
  replace Je := Je.ext ex
  replace Jg := Jg.ext ex
  replace L0 := L0.ext ex
  replace L1 := L1.ext ex
  replace L2 := L2.ext ex
  replace L4 := L4.ext ex
  replace L5 := L5.ext ex
  replace B9 := B9.ext ex
  replace Jm := Jm.ext ex
  replace Ht := Ht.ext ex
  have Jl := kp_far (S := [gB8, gB7, gB5, gB4]) Hl (far_cons B8 (show (3 : Nat) < 64 by omega) (far_cons B7 (show (8 : Nat) < 64 by omega) (far_cons B5 (show (3 : Nat) < 64 by omega) (far_cons B4 (show (8 : Nat) < 64 by omega) far_nil))))
  refine wl_y (y_move rfl) rfl ?_
  refine wl_y (y_extract rfl rfl) rfl ?_
  refine wl_y (y_extract rfl rfl) rfl ?_
  refine wl_y (y_fieldAddr (o := 7) (s := 1) (off := 0) (o' := 7) rfl Tryz.underlying29 rfl (by kernel_rfl) rfl rfl) rfl ?_
  refine wl_ef (ef_storeB (i := 7) rfl rfl rfl (by kernel_rfl) B7 (Nat.le_of_ble_eq_true rfl)) rfl ?_
  rintro _ wS15_8 ⟨rfl, D, cg⟩
  have ex := Chs.one cg
  clear cg
  replace F := F.chs ex
  replace KI := KI.chs ex
  replace KB := KB.chs ex
  replace B4 := B4.chs ex
  replace B5 := B5.chs ex
  replace B8 := B8.chs ex
  replace Ja := Ja.chs ex
  replace Jb := Jb.chs ex
  replace Jc := Jc.chs ex
  replace Jd := Jd.chs ex
  replace Je := Je.chs ex
  replace Jg := Jg.chs ex
  replace L0 := L0.chs ex
  replace L1 := L1.chs ex
  replace L2 := L2.chs ex
  replace L4 := L4.chs ex
  replace L5 := L5.chs ex
  replace B9 := B9.chs ex
  replace Jm := Jm.chs ex
  replace Jl := Jl.chs ex
  replace B7 := D; clear D
  replace B7 := B7.congr (cs' := packV ⟨Ab, 32, cb⟩ i0 i1 i2 (mkL1 ident seed).src i4 i5 ⟨Al, 64, cl⟩) rfl
  refine wl_nil ?_
  refine wq_then_norm (hK19 ?_)
  refine wc_seq ?_; intro K20 hK20
  refine wc_drawJ [(2, [gB4]), (3, [gB5])] (by kernel_rfl) 5 rfl ?_; intro wd16 ex hd16
  replace F := F.ext ex
  replace KI := KI.ext ex
  replace KB := KB.ext ex
  replace B4 := B4.ext ex
  replace B5 := B5.ext ex
  replace B7 := B7.ext ex
  replace B8 := B8.ext ex
  replace Ja := Ja.ext ex
  replace Jb := Jb.ext ex
  replace Jc := Jc.ext ex
  replace Jd := Jd.ext ex
  replace Je := Je.ext ex
  replace Jg := Jg.ext ex
  replace L0 := L0.ext ex
  replace L1 := L1.ext ex
  replace L2 := L2.ext ex
  replace L4 := L4.ext ex
  replace L5 := L5.ext ex
  replace B9 := B9.ext ex
  replace Jm := Jm.ext ex
  replace Jl := Jl.ext ex
  refine wj_y 0 [] rfl (by kernel_rfl) (fun wr (cr : Chs ([]) _ wr) => y_loadx (o := 0) (s := 8) rfl Tryz.underlying29 rfl (by kernel_rfl) (B7.chs cr) rfl) rfl ?_
  refine wj_y 1 [2] rfl (by kernel_rfl) (fun wr (cr : Chs ([gB4]) _ wr) => y_loadx (o := 0) (s := 3) rfl Tryz.underlying51 rfl (by kernel_rfl) (B8.chs cr) rfl) rfl ?_
  refine wj_one 2 (by kernel_rfl) ?_; refine oj_ef rfl (ef_storeP (o := 0) rfl rfl (by kernel_rfl) B4 (Nat.le_of_ble_eq_true rfl) (all_ones rfl)) rfl ?_
  rintro _ wS16_2 ⟨rfl, D, cg⟩
  have ex := Chs.one cg
  clear cg
  refine ⟨ex, ?_⟩
  replace F := F.chs ex
  replace KI := KI.chs ex
  replace KB := KB.chs ex
  replace B5 := B5.chs ex
  replace B7 := B7.chs ex
  replace B8 := B8.chs ex
  replace Ja := Ja.chs ex
  replace Jb := Jb.chs ex
  replace Jc := Jc.chs ex
  replace Jd := Jd.chs ex
  replace Je := Je.chs ex
  replace Jg := Jg.chs ex
  replace L0 := L0.chs ex
  replace L1 := L1.chs ex
  replace L2 := L2.chs ex
  replace L4 := L4.chs ex
  replace L5 := L5.chs ex
  replace B9 := B9.chs ex
  replace Jm := Jm.chs ex
  replace Jl := Jl.chs ex
  replace B4 := D; clear D
  refine wj_one 3 (by kernel_rfl) ?_; refine oj_ef rfl (ef_storeP (o := 0) rfl rfl (by kernel_rfl) B5 (Nat.le_of_ble_eq_true rfl) (all_ones rfl)) rfl ?_
  rintro _ wS16_3 ⟨rfl, D, cg⟩
  have ex := Chs.one cg
  clear cg
  refine ⟨ex, ?_⟩
  replace F := F.chs ex
  replace KI := KI.chs ex
  replace KB := KB.chs ex
  replace B4 := B4.chs ex
  replace B7 := B7.chs ex
  replace B8 := B8.chs ex
  replace Ja := Ja.chs ex
  replace Jb := Jb.chs ex
  replace Jc := Jc.chs ex
  replace Jd := Jd.chs ex
  replace Je := Je.chs ex
  replace Jg := Jg.chs ex
  replace L0 := L0.chs ex
  replace L1 := L1.chs ex
  replace L2 := L2.chs ex
  replace L4 := L4.chs ex
  replace L5 := L5.chs ex
  replace B9 := B9.chs ex
  replace Jm := Jm.chs ex
  replace Jl := Jl.chs ex
  replace B5 := D; clear D
  refine wj_y 4 [] rfl (by kernel_rfl) (fun wr (cr : Chs ([]) _ wr) => y_assign rfl) rfl ?_
  refine wj_done (by kernel_rfl) ?_
  refine wq_nop ?_
  replace B4 := B4.congr (cs' := packV ⟨Ab, 32, cb⟩ i0 i1 i2 (mkL1 ident seed).src i4 i5 ⟨Al, 64, cl⟩) rfl
  replace B5 := B5.congr (cs' := thrV ⟨Aa, 32, ca⟩ ⟨Ac, 32, cc⟩ ⟨Ae, 32, ce⟩) rfl
  refine wq_then_norm (hK20 ?_)
  refine wc_ret ?_
  refine hret rfl rfl rfl B4 rfl B5 rfl ?_
  exact ⟨_, _, rfl, ⟨⟨Ab, 32, cb⟩, i0, i1, i2, i4, i5, ⟨Al, 64, cl⟩, rfl, (by show 1 < 256; omega), Jb.out, L0.out, L1.out, L2.out, L4.out, L5.out, Jl.out⟩, ⟨⟨Aa, 32, ca⟩, ⟨Ac, 32, cc⟩, ⟨Ae, 32, ce⟩, rfl, Ja.out, Jc.out, Je.out⟩, F.toExt (by simp; omega)⟩
end Go.Proofs.YtjllhimhiekchaaGreat
