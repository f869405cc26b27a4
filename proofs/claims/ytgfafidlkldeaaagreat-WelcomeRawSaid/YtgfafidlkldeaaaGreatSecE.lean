/- sched's transcripts, tags, locks and exports, and the reference's: what they hand back; the laws SchedTags, SchedExports. -/
import Derived.Test.YtgfafidlkldeaaaGreatRowB
import Derived.Test.YtgfafidlkldeaaaGreatMacB
import Derived.Test.YtgfafidlkldeaaaGreatVs
import Derived.Test.YtgfafidlkldeaaaGreatAu
import Derived.Test.YtgfafidlkldeaaaGreatKdfB
set_option linter.unusedVariables false
set_option linter.unusedSimpArgs false
set_option maxHeartbeats 4000000
set_option maxRecDepth 4000
namespace Go.Proofs.YtgfafidlkldeaaaGreat
section
open Go.RowKit Tryz
attribute [local irreducible] Y Ef WL WC WK WQ WM cE WN WF dc
def cP (w : World) (cs : Array Value) (l : List (List UInt8)) : Prop := ∃ vs : List Value, cs = vs.toArray ∧ vs.length = 12 ∧ l.length = 12 ∧ ∀ i, i < 12 → ∃ A n c, vs[i]? = some (.slice A n c) ∧ Bs w A n (l.getD i [])
theorem cP.ext {w w' : World} {cs : Array Value} {l : List (List UInt8)} (h : cP w cs l) (k : Ext w w') : cP w' cs l := by
 obtain ⟨vs, h1, h2, h3, h4⟩ := h
 exact ⟨vs, h1, h2, h3, fun i hi => by obtain ⟨A, n, c, h5, h6⟩ := h4 i hi; exact ⟨A, n, c, h5, h6.ext k⟩⟩
theorem cP.get {w : World} {cs : Array Value} {l : List (List UInt8)} (h : cP w cs l) {i : Nat} (hi : i < 12) : ∃ A n c, cs[i]? = some (.slice A n c) ∧ Bs w A n (l.getD i []) := by
 obtain ⟨vs, rfl, h2, h3, h4⟩ := h
 obtain ⟨A, n, c, h5, h6⟩ := h4 i hi
 exact ⟨A, n, c, by simpa using h5, h6⟩
theorem cP.size {w : World} {cs : Array Value} {l : List (List UInt8)} (h : cP w cs l) : cs.size = 12 := by obtain ⟨vs, rfl, h2, _⟩ := h; simpa using h2
theorem cP.one {w : World} {cs : Array Value} {l : List (List UInt8)} (h : cP w cs l) : cs.all (·.oneCell') = true := by
 rw [Array.all_eq_true]
 intro i _
 obtain ⟨A, n, c, h5, _⟩ := h.get (i := i) (by have := h.size; omega)
 rw [Array.getElem?_eq_some_iff] at h5
 obtain ⟨_, h5⟩ := h5
 rw [h5]; rfl
def AD (cs : Array Value) : Prop := ∀ (i : Nat) (v : Value), cs[i]? = some v → ∃ A n c, v = Value.slice A n c
theorem cP.sl {w : World} {cs : Array Value} {l : List (List UInt8)} (h : cP w cs l) : AD cs := fun i v hv => by
 have hi : i < cs.size := (Array.getElem?_eq_some_iff.1 hv).1
 obtain ⟨A, n, c, h5, _⟩ := h.get (i := i) (by have := h.size; omega)
 rw [h5] at hv; injection hv with hv; exact ⟨A, n, c, hv.symm⟩
theorem Bs.sl {w w' : World} {A : Oa} {n g : Nat} {t : TypeId} {xs : Lb} {cs : Array Value} (h : Bs w A n xs) (B : ao w g t cs) (hs : AD cs) (cg : lA w g w') : Bs w' A n xs := by
 rcases Nat.eq_zero_or_pos n with h0 | h0
 ·subst h0
  have : xs = [] := List.length_eq_zero_iff.1 h.1
  subst this
  exact Bs.nil w' A
 ·refine h.aE cg fun b off hA e => ?_
  obtain ⟨b', Vx, Vw, _, hc⟩ := h.get h0
  rw [hA] at Vw
  injection Vw with Vw
  injection Vw with Vw _ _
  subst Vw
  rw [e, B.cell] at hc
  obtain ⟨A, n, c, hv⟩ := hs _ _ hc
  cases hv
theorem cP.put {w w' : World} {cs : Array Value} {l : List (List UInt8)} {g n c i : Nat} {t : TypeId} {A : Oa} {xs : Lb} (h : cP w cs l) (B : ao w g t cs) (cg : lA w g w') (hx : Bs w A n xs) (hi : i < 12) : cP w' (cs.setIfInBounds i (Value.slice A n c)) (l.set i xs) := by
 have hsl := h.sl
 obtain ⟨vs, rfl, h2, h3, h4⟩ := h
 refine ⟨vs.set i (.slice A n c), by simp, by simpa using h2, by simpa using h3, fun j hj => ?_⟩
 by_cases e : i = j
 ·subst e
  exact ⟨A, n, c, by rw [List.getElem?_set_self Om], by rw [List.getD_eq_getElem?_getD, List.getElem?_set_self Om]; exact hx.sl B hsl cg⟩
 ·obtain ⟨A', n', c', h5, h6⟩ := h4 j hj
  exact ⟨A', n', c', by rw [List.getElem?_set_ne e]; exact h5, by rw [List.getD_eq_getElem?_getD, List.getElem?_set_ne e, ← List.getD_eq_getElem?_getD]; exact h6.sl B hsl cg⟩
def eO : Nat → ByteArray
 | 0 => ⟨#[115, 101, 110, 100, 101, 114, 32, 100, 97, 116, 97]⟩
 | 1 => ⟨#[101, 110, 99, 114, 121, 112, 116, 105, 111, 110]⟩
 | 2 => ⟨#[101, 120, 112, 111, 114, 116, 101, 114]⟩
 | 3 => ⟨#[97, 117, 116, 104, 101, 110, 116, 105, 99, 97, 116, 105, 111, 110]⟩
 | 4 => ⟨#[101, 120, 116, 101, 114, 110, 97, 108]⟩
 | 5 => ⟨#[99, 111, 110, 102, 105, 114, 109]⟩
 | 6 => ⟨#[109, 101, 109, 98, 101, 114, 115, 104, 105, 112]⟩
 | 7 => ⟨#[114, 101, 115, 117, 109, 112, 116, 105, 111, 110]⟩
 | 8 => ⟨#[105, 110, 105, 116]⟩
 | _ => ⟨#[]⟩
theorem dZ (i : Nat) : (eO i).size ≤ 1048576 := by
 unfold eO
 split <;> decide
def ib : ByteArray := ⟨#[119, 101, 108, 99, 111, 109, 101]⟩
def y9 : ByteArray := ⟨#[101, 112, 111, 99, 104]⟩
def oz (j : Lb) : List UInt8 := Mac.tag j (List.replicate 32 0)
def rm (j : Lb) (c : Ctx) : List UInt8 := Kdf.label (oz j) y9.data.toList (dv c) 32
def rl (e : Lb) (i : Nat) : List UInt8 := Kdf.label e (eO i).data.toList [] 32
def bJ (j : Lb) (c : Ctx) : List (List UInt8) := [j, Kdf.label (oz j) ib.data.toList [] 32, rm j c] ++ (List.range 9).map (rl (rm j c))
theorem dQ (k s c : Lb) (n : Nat) : (Kdf.label k s c n).length = n := by unfold Kdf.label; exact Kdf.lQ _ _ _
theorem jt (A B : Oa) (n c m d k : Nat) (s : ByteArray) (ks cs : Lb) (w : World) (HA : Bs w A n ks) (hn : n ≤ 35184372088832) (hs : s.size ≤ 1048576) (HB : Bs w B m cs) (hm : m ≤ 1048576) (hk : k ≤ 8160) :
  Ct 98 #[.slice A n c, .string s, .slice B m d, .int .i64 (k : Int)] w fun e w' => ∃ A' c', e = .returned (.slice A' k c') ∧ Bs w' A' k (Kdf.label ks s.data.toList cs k) ∧ Ext w w' := by
 refine ai 20 func98 rfl rfl rfl rfl ?_
 intro _ hret
 refine aU ?_
 refine aB func130 rfl (sR A B n c m d k s ks cs _ HA hn hs HB hm hk) ?_
 rintro e _ ⟨A1, c1, rfl, H1, _, ex⟩
 refine aU ?_
 refine hret rfl ?_
 exact ⟨A1, c1, rfl, H1, ex⟩
def kC (g : Nat) : Array Value := #[.string (eO 0), .pointer (some ⟨g, 3, none⟩), .string (eO 1), .pointer (some ⟨g, 4, none⟩), .string (eO 2), .pointer (some ⟨g, 5, none⟩), .string (eO 3), .pointer (some ⟨g, 6, none⟩), .string (eO 4), .pointer (some ⟨g, 7, none⟩), .string (eO 5), .pointer (some ⟨g, 8, none⟩), .string (eO 6), .pointer (some ⟨g, 9, none⟩), .string (eO 7), .pointer (some ⟨g, 10, none⟩), .string (eO 8), .pointer (some ⟨g, 11, none⟩)]
theorem Ma (g : Nat) {i : Nat} (h : i < 9) : (kC g)[2 * i]? = some (.string (eO i)) ∧ (kC g)[2 * i + 1]? = some (.pointer (some ⟨g, 3 + i, none⟩)) := by
 match i, h with
 | 0, _ => exact ⟨rfl, rfl⟩
 | 1, _ => exact ⟨rfl, rfl⟩
 | 2, _ => exact ⟨rfl, rfl⟩
 | 3, _ => exact ⟨rfl, rfl⟩
 | 4, _ => exact ⟨rfl, rfl⟩
 | 5, _ => exact ⟨rfl, rfl⟩
 | 6, _ => exact ⟨rfl, rfl⟩
 | 7, _ => exact ⟨rfl, rfl⟩
 | 8, _ => exact ⟨rfl, rfl⟩
theorem vM (g : Nat) (w : World) :
  Ct 102 #[.pointer (some ⟨g, 0, none⟩)] w fun e w' => ∃ gt, e = .returned (.slice (some ⟨gt, 0, none⟩) 9 9) ∧ ao w' gt 159 (kC g) ∧ w.heap.size ≤ gt ∧ Ext w w' := by
 have E := Ext.refl w
 refine ai 40 func102 rfl rfl rfl rfl ?_
 intro _ hret
 refine aU ?_
 refine aC Kr 38 rfl ?_; intro Vw ex Vx
 replace E := E.ext ex
 refine zm [0, 1, 2] ?_
 refine my 3 rfl (aq rfl (cells := #[.string (eO 0), .pointer (some ⟨g, 3, none⟩)]) Kr) ?_
 refine zm [4, 5, 6] ?_
 refine my 7 rfl (aq rfl (cells := #[.string (eO 1), .pointer (some ⟨g, 4, none⟩)]) Kr) ?_
 refine zm [8, 9, 10] ?_
 refine my 11 rfl (aq rfl (cells := #[.string (eO 2), .pointer (some ⟨g, 5, none⟩)]) Kr) ?_
 refine zm [12, 13, 14] ?_
 refine my 15 rfl (aq rfl (cells := #[.string (eO 3), .pointer (some ⟨g, 6, none⟩)]) Kr) ?_
 refine zm [16, 17, 18] ?_
 refine my 19 rfl (aq rfl (cells := #[.string (eO 4), .pointer (some ⟨g, 7, none⟩)]) Kr) ?_
 refine zm [20, 21, 22] ?_
 refine my 23 rfl (aq rfl (cells := #[.string (eO 5), .pointer (some ⟨g, 8, none⟩)]) Kr) ?_
 refine zm [24, 25, 26] ?_
 refine my 27 rfl (aq rfl (cells := #[.string (eO 6), .pointer (some ⟨g, 9, none⟩)]) Kr) ?_
 refine zm [28, 29, 30] ?_
 refine my 31 rfl (aq rfl (cells := #[.string (eO 7), .pointer (some ⟨g, 10, none⟩)]) Kr) ?_
 refine zm [32, 33, 34] ?_
 refine my 35 rfl (aq rfl (cells := #[.string (eO 8), .pointer (some ⟨g, 11, none⟩)]) Kr) ?_
 refine bk 36 Kr ?_; refine bH rfl (IT (cells := kC g) Tn.u rfl Kr) rfl ?_
 rintro _ _ ⟨gt, rfl, B1, _, ex⟩
 refine ⟨.inr ex, ?_⟩
 replace E := E.ext ex
 refine zm [37] ?_
 refine hret rfl ?_
 have h2 : Vw.heap.size = w.heap.size := by rw [Vx]
 exact ⟨gt, rfl, B1, by omega, E⟩
end
section
open Go.RowKit Tryz
attribute [local irreducible] Y Ef WL WC WK WQ WM cE WN WF dc
theorem cP.aE {w w' : World} {cs ds : Array Value} {l : List (List UInt8)} {g : Nat} {t : TypeId} (h : cP w cs l) (B : ao w g t ds) (hs : AD ds) (cg : lA w g w') : cP w' cs l := by
 obtain ⟨vs, h1, h2, h3, h4⟩ := h
 exact ⟨vs, h1, h2, h3, fun i hi => by obtain ⟨A, n, c, h5, h6⟩ := h4 i hi; exact ⟨A, n, c, h5, h6.sl B hs cg⟩⟩
theorem cP.congr {w : World} {cs : Array Value} {l l' : List (List UInt8)} (h : cP w cs l) (e : l = l') : cP w cs l' := e ▸ h
def CS : Array Value := #[.slice none 0 0, .slice none 0 0, .slice none 0 0, .slice none 0 0, .slice none 0 0, .slice none 0 0, .slice none 0 0, .slice none 0 0, .slice none 0 0, .slice none 0 0, .slice none 0 0, .slice none 0 0]
theorem zT : AD CS := fun i v hv => by
 match i, hv with
 | 0, hv => injection hv with hv; exact ⟨_, _, _, hv.symm⟩
 | 1, hv => injection hv with hv; exact ⟨_, _, _, hv.symm⟩
 | 2, hv => injection hv with hv; exact ⟨_, _, _, hv.symm⟩
 | 3, hv => injection hv with hv; exact ⟨_, _, _, hv.symm⟩
 | 4, hv => injection hv with hv; exact ⟨_, _, _, hv.symm⟩
 | 5, hv => injection hv with hv; exact ⟨_, _, _, hv.symm⟩
 | 6, hv => injection hv with hv; exact ⟨_, _, _, hv.symm⟩
 | 7, hv => injection hv with hv; exact ⟨_, _, _, hv.symm⟩
 | 8, hv => injection hv with hv; exact ⟨_, _, _, hv.symm⟩
 | 9, hv => injection hv with hv; exact ⟨_, _, _, hv.symm⟩
 | 10, hv => injection hv with hv; exact ⟨_, _, _, hv.symm⟩
 | 11, hv => injection hv with hv; exact ⟨_, _, _, hv.symm⟩
 | i + 12, hv => simp [CS] at hv
def iK (j W e : Lb) (i : Nat) : List (List UInt8) := [j, W, e] ++ (List.range i).map (rl e) ++ List.replicate (9 - i) []
theorem ye (j W e : Lb) {i : Nat} (h : i < 9) : (iK j W e i).set (3 + i) (rl e i) = iK j W e (i + 1) := by
 unfold iK
 rw [List.set_append_right _ _ So, List.range_succ, List.map_append]
 simp only [List.length_append, List.length_cons, List.length_nil, List.length_map, List.length_range]
 rw [show 3 + i - (0 + 1 + 1 + 1 + i) = 0 by omega, show 9 - i = (9 - (i + 1)) + 1 by omega, List.replicate_succ, List.set_cons_zero]
 simp
theorem y6 (j W e : Lb) (i : Nat) : (iK j W e i).getD 2 [] = e := rfl
theorem vH {w : World} {A B : Oa} {n c m d : Nat} {xs ys : Lb} (HA : Bs w A n xs) (HB : Bs w B m ys) : cP w #[.slice A n c, .slice B m d, .slice none 0 0, .slice none 0 0, .slice none 0 0, .slice none 0 0, .slice none 0 0, .slice none 0 0, .slice none 0 0, .slice none 0 0, .slice none 0 0, .slice none 0 0] (iK xs ys [] 0) := by
 refine ⟨_, rfl, rfl, rfl, fun i hi => ?_⟩
 match i, hi with
 | 0, _ => exact ⟨A, n, c, rfl, HA⟩
 | 1, _ => exact ⟨B, m, d, rfl, HB⟩
 | 2, _ => exact ⟨none, 0, 0, rfl, Bs.nil _ _⟩
 | 3, _ => exact ⟨none, 0, 0, rfl, Bs.nil _ _⟩
 | 4, _ => exact ⟨none, 0, 0, rfl, Bs.nil _ _⟩
 | 5, _ => exact ⟨none, 0, 0, rfl, Bs.nil _ _⟩
 | 6, _ => exact ⟨none, 0, 0, rfl, Bs.nil _ _⟩
 | 7, _ => exact ⟨none, 0, 0, rfl, Bs.nil _ _⟩
 | 8, _ => exact ⟨none, 0, 0, rfl, Bs.nil _ _⟩
 | 9, _ => exact ⟨none, 0, 0, rfl, Bs.nil _ _⟩
 | 10, _ => exact ⟨none, 0, 0, rfl, Bs.nil _ _⟩
 | 11, _ => exact ⟨none, 0, 0, rfl, Bs.nil _ _⟩
theorem tK (j W e : Lb) : (iK j W [] 0).set 2 e = iK j W e 0 := rfl
theorem zq (j : Lb) (c : Ctx) : iK j (Kdf.label (oz j) ib.data.toList [] 32) (rm j c) 9 = bJ j c := by
 unfold iK bJ; simp
theorem p7 {w : World} {g : Nat} {t : TypeId} (B : ao w g t (List.replicate 32 (Value.int .u8 0)).toArray) : Bs w (some ⟨g, 0, none⟩) 32 (List.replicate 32 0) := bw (B.congr (by rfl)) (by simp)
theorem Az (A : Oa) (n c : Nat) (xs : Lb) (cs : Array Value) (x : Ctx) (w : World) (HA : Bs w A n xs) (hn : n ≤ 1000) (H : gY w cs x) (hs : x.Small) :
  Ct 41 #[.slice A n c, .agg cs] w fun e w' => ∃ ds, e = .returned (.agg ds) ∧ cP w' ds (bJ xs x) ∧ Ext w w' := by
 have hz := H.size
 have E := Ext.refl w
 obtain ⟨W, hW⟩ : ∃ W, W = Kdf.label (oz xs) ib.data.toList [] 32 := ⟨_, rfl⟩
 obtain ⟨ep, hep⟩ : ∃ e, e = rm xs x := ⟨_, rfl⟩
 have hepl : ep.length = 32 := by rw [hep]; exact dQ _ _ _ _
 refine aH (s := 12) 38 func41 rfl rfl rfl underlying44 rfl Kr rfl ?_
 intro _ hret
 refine au 2 ?_
 refine ag (iJ (cs := cs) rfl rfl) rfl ?_
 rintro _ _ ⟨_, rfl, B3, _, ex⟩
 obtain ⟨E,HA,H⟩ := bC ex E HA H
 have E0 := E
 refine ag (cw (Z := CS) Kr) rfl ?_
 rintro _ _ ⟨g4, rfl, B4, VK, ex⟩
 obtain ⟨E,HA,H,B3⟩ := bO ex E HA H B3
 have VL := Nat.le_trans E0.size VK
 refine au 5 ?_
 refine ag (du (n := 32) (z := .int .u8 0) (bytes := 1) rfl rfl Tn.u Kr rfl rfl rfl rfl Om Om) rfl ?_
 rintro _ _ ⟨_, rfl, BZ, _, ex⟩
 obtain ⟨E,HA,H,B3,B4⟩ := er ex E HA H B3 B4
 have HZ := p7 BZ
 refine aB func99 rfl (oY A _ n c 32 32 xs _ _ HA Om HZ Om) ?_
 rintro e _ ⟨A5, c5, rfl, H5, ex⟩
 obtain ⟨E,HA,H,B3,B4⟩ := er ex E HA H B3 B4
 refine au 7 ?_
 refine aB func100 rfl (yb A n c xs _ HA Om) ?_
 rintro e _ ⟨A6, c6, rfl, H6, _, ex⟩
 obtain ⟨E,H,B3,B4,H5⟩ := er ex E H B3 B4 H5
 refine au 2 ?_
 refine aB func67 rfl (ia A5 32 c5 ib _ _ H5 Om (by decide)) ?_
 rintro e w6 ⟨A7, c7, rfl, H7, ex⟩
 refine au 1 ?_
 obtain ⟨E,H,B3,B4,H5,H6⟩ := iP ex E H B3 B4 H5 H6
 replace H7 : Bs w6 A7 32 W := by rw [hW]; exact H7
 refine ak (aq rfl (cells := #[.slice A6 n c6, .slice A7 32 c7, .slice none 0 0, .slice none 0 0, .slice none 0 0, .slice none 0 0, .slice none 0 0, .slice none 0 0, .slice none 0 0, .slice none 0 0, .slice none 0 0, .slice none 0 0]) Kr) ?_
 have Vz := E
 have VG := H
 have VA := B3
 have Vy := B4
 have VB := H5
 have VC := H6
 have VD := H7
 refine ag (cw (Z := CS) Kr) rfl ?_
 rintro _ _ ⟨g6, rfl, Vw, VH, ex⟩
 have Vx := ex
 obtain ⟨E,H,B3,B4,H5,H6,H7⟩ := iQ ex E H B3 B4 H5 H6 H7
 have VJ := Nat.le_trans Vz.size VH; have VU := Nat.lt_of_lt_of_le Vy.lt VH
 refine ag (ah rfl rfl Kr Vw rfl (by simp [Value.oneCell'])) rfl ?_
 rintro _ _ ⟨rfl, Vw, cg⟩
 replace Vx := Vx.aE cg VH
 replace E := Vz.ext Vx
 replace H := VG.ext Vx
 replace B3 := VA.ext Vx
 replace B4 := Vy.ext Vx
 replace H5 := VB.ext Vx
 replace H6 := VC.ext Vx
 replace H7 := VD.ext Vx
 have HS := vH (c := c6) (d := c7) H6 H7
 refine au 5 ?_
 refine ak (aY rfl Tn.u rfl (by rw [hz]; kernel_rfl) B3) ?_
 refine aB func101 rfl (uA cs x _ H hs) ?_
 rintro e _ ⟨A8, k8, c8, rfl, H8, _, ex⟩
 obtain ⟨E,B4,H5,Vw,HS⟩ := er ex E B4 H5 Vw HS
 refine au 1 ?_
 refine aB func98 rfl (jt A5 A8 32 c5 k8 c8 32 y9 _ _ _ H5 Om (by decide) H8 Om Om) ?_
 rintro e w9 ⟨A9, c9, rfl, H9, ex⟩
 refine au 1 ?_
 obtain ⟨E,B4,Vw,HS⟩ := bO ex E B4 Vw HS
 replace H9 : Bs w9 A9 32 ep := by rw [hep]; exact H9
 refine ak (dB 2 1 0 2 Tn.u) ?_
 refine ag (av rfl rfl rfl Kr Vw (by rw [HS.size]; omega)) rfl ?_
 rintro _ _ ⟨rfl, VM, cg⟩
 replace E := E.aE cg VJ; replace B4 := B4.aE cg Om; replace HS := (HS.put Vw cg H9 (c := c9) (i := 2) Om).congr (tK xs W ep); replace Vw := VM
 refine au 5 ?_
 have VV := Vw.lt
 refine aB func102 rfl (vM g6 _) ?_
 rintro e _ ⟨gt, rfl, BT, _, ex⟩
 obtain ⟨E,B4,Vw,HS⟩ := bO ex E B4 Vw HS
 have VW : g6 < gt := by omega
 refine au 6 ?_
 refine az (fun n' L wr => ∃ (i : Nat) (ds : Array Value), L = [(4, .pointer (some ⟨g4, 0, none⟩)), (6, .pointer (some ⟨g6, 0, none⟩)), (22, .slice (some ⟨gt, 0, none⟩) 9 9), (23, .int .i64 ((9 : Nat) : Int)), (24, .int .i64 (i : Int))] ∧ n' = 9 - i ∧ (i ≤ 9 ∧ Ext w wr ∧ ao wr g4 44 CS ∧ ao wr g6 44 ds ∧ cP wr ds (iK xs W ep i) ∧ ao wr gt 159 (kC g6))) _ _ ⟨0, _, rfl, rfl, by omega, E, B4, Vw, HS, BT⟩ Ls ?_
 rintro _ n' L wr ⟨i, ds, rfl, rfl, _, E, B4, B6, HS, BT⟩ VN
 refine au 2 ?_
 refine ak (dA rfl rfl) ?_
 refine au 3 ?_
 refine al rfl (fun VO => ?_) (fun VO => ?_)
 ·have htab := Ma g6 (i := i) Om
  refine au 6 ?_
  refine ak (xO (s := 2) rfl rfl Tn.u Kr (j := i) rfl Om) ?_
  refine ak ((fL (cs := #[.string (eO i), .pointer (some ⟨g6, 3 + i, none⟩)]) rfl Tn.u rfl Kr (fun j v hv => by rw [Addr.add_plain, BT.cell, Nat.zero_add, Nat.mul_comm]; match j, hv with | 0, hv => injection hv with hv; rw [← hv]; exact htab.1 | 1, hv => injection hv with hv; rw [← hv]; exact htab.2 | j + 2, hv => simp at hv))) ?_
  have E_gx := E
  have VE := B4
  have VF := B6
  have HS_gx := HS
  have BT_gx := BT
  refine ag (cw (Z := #[.string ⟨#[]⟩, .pointer none]) Kr) rfl ?_
  rintro _ _ ⟨_, rfl, Bgx, hgx, ex⟩
  have Xgx := ex
  obtain ⟨E,B4,B6,HS,BT⟩ := er ex E B4 B6 HS BT
  refine ag (ah rfl rfl Kr Bgx rfl (by simp [Value.oneCell'])) rfl ?_
  rintro _ _ ⟨rfl, Bgx, cg⟩
  replace Xgx := Xgx.aE cg hgx
  replace E := E_gx.ext Xgx
  replace B4 := VE.ext Xgx
  replace B6 := VF.ext Xgx
  replace HS := HS_gx.ext Xgx
  replace BT := BT_gx.ext Xgx
  refine au 2 ?_
  refine aC Kr 9 rfl ?_; intro VX ex VY
  obtain ⟨E,B4,B6,HS,BT,Bgx⟩ := iP ex E B4 B6 HS BT Bgx
  obtain ⟨Ae, ne, ce, hce, He⟩ := HS.get (i := 2) Om
  rw [y6] at He
  have hne : ne = 32 := by rw [← He.1]; exact hepl
  refine dk 0 rfl (fun _ => dB 1 1 0 1 Tn.u) ?_
  refine my 1 rfl (af rfl Tn.u rfl (Bgx.get (i := 1) rfl)) ?_
  refine dk 2 rfl (fun _ => dB 2 1 0 2 Tn.u) ?_
  refine my 3 rfl (af rfl Tn.u rfl (B6.get hce)) ?_
  refine dk 4 rfl (fun _ => dB 0 1 0 0 Tn.u) ?_
  refine my 5 rfl (af rfl Tn.u rfl (Bgx.get (i := 0) rfl)) ?_
  refine bD 6 rfl func67 rfl (ia Ae ne ce (eO i) ep _ He Om (dZ i)) ?_
  rintro e _ ⟨_, VP, rfl, VQ, ex⟩
  obtain ⟨E,B4,B6,HS,BT⟩ := er ex E B4 B6 HS BT
  refine au 1 ?_
  refine dk 7 rfl (fun _ => Du rfl) ?_
  refine bk 8 Kr ?_; refine bH rfl (av rfl rfl rfl Kr B6 (by rw [HS.size]; omega)) rfl ?_
  rintro _ _ ⟨rfl, VR, cg⟩
  refine ⟨.inl rfl, ?_⟩
  replace E := E.aE cg VJ; replace B4 := B4.aE cg Om; replace BT := BT.aE cg Om; replace HS := (HS.put B6 cg VQ (c := VP) (i := 3 + i) Om).congr (ye xs W ep Om)
  refine nC Kr ?_
  refine au 4 ?_
  refine ak (aO rfl rfl (bc Om Om)) ?_
  refine au 2 ?_
  refine ae ?_
  refine VN _ _ ⟨i + 1, _, rfl, rfl, by omega, E, B4, VR, HS, BT⟩ Om Ls
 ·refine au 7 ?_
  refine ak (aY rfl Tn.u rfl (by rw [HS.size]; kernel_rfl) B6) ?_
  refine ag (ah rfl rfl (by rw [HS.size]; kernel_rfl) B4 (by rw [HS.size]; rfl) HS.one) rfl ?_
  rintro _ _ ⟨rfl, VS, cg⟩
  have VT := E.aE cg VL; have VI := HS.aE B4 zT cg
  refine au 3 ?_
  refine hret rfl VS HS.size ?_
  exact ⟨ds, rfl, VI.congr (by rw [show i = 9 by omega, hW, hep]; exact zq xs x), VT⟩
end
section
open Go.RowKit Tryz
attribute [local irreducible] Y Ef WL WC WK WQ WM cE WN WF dc
theorem Cx (A B : Oa) (n m c d : Nat) (xs ys : Lb) (w : World) (ha : Bs w A n xs) (hb : Bs w B m ys) (hn : n ≤ 140737488355328) (hm : m ≤ 140737488355328) :
  Ct 26 #[.slice A n c, .slice B m d] w fun e w' => e = .returned (.bool (decide (xs = ys))) ∧ Ext w w' :=
 (vI A B n m c d xs ys w ha hb hn hm).mono fun _ _ ⟨h, k, hk⟩ => ⟨h, hk ▸ Ext.drewN w k⟩
theorem dh (A : Oa) (n c : Nat) (s : ByteArray) (ks : Lb) (w : World) (HA : Bs w A n ks) (hn : n ≤ 35184372088832) (hs : s.size ≤ 1048576) :
  Ct 51 #[.slice A n c, .string s] w fun e w' => ∃ A' c', e = .returned (.slice A' 32 c') ∧ Bs w' A' 32 (Kdf.label ks s.data.toList [] 32) ∧ Ext w w' := by
 refine ai 8 func51 rfl rfl rfl rfl ?_
 intro _ hret
 refine aU ?_
 refine aB func47 rfl (fy A none n c 0 0 32 s ks [] _ HA hn hs (Bs.nil _ _) Om Om) ?_
 rintro e _ ⟨A1, c1, rfl, H1, ex⟩
 refine aU ?_
 refine hret rfl ?_
 exact ⟨A1, c1, rfl, H1, ex⟩
theorem kg (A : Oa) (n c : Nat) (xs : Lb) (w : World) (HA : Bs w A n xs) (hn : n ≤ 1000) :
  Ct 48 #[.slice A n c] w fun e w' => ∃ A' c', e = .returned (.slice A' 32 c') ∧ Bs w' A' 32 (oz xs) ∧ Ext w w' := by
 refine ai 6 func48 rfl rfl rfl rfl ?_
 intro _ hret
 refine aU ?_
 refine ag (du (n := 32) (z := .int .u8 0) (bytes := 1) rfl rfl Tn.u Kr rfl rfl rfl rfl Om Om) rfl ?_
 rintro _ _ ⟨_, rfl, BZ, _, ex⟩
 replace HA := HA.ext ex
 have HZ := p7 BZ; have E1 := ex
 refine aB func18 rfl (lr A _ n c 32 32 xs _ _ HA Om HZ Om) ?_
 rintro e _ ⟨A2, c2, rfl, R2, ex⟩
 have E2 := E1.ext ex
 refine aU ?_
 refine hret rfl ?_
 exact ⟨A2, c2, rfl, R2.bs, E2⟩
theorem yO (A : Oa) (n c : Nat) (xs : Lb) (cs : Array Value) (x : Ctx) (w : World) (HA : Bs w A n xs) (hn : n ≤ 1000) (H : gY w cs x) (hs : x.Small) :
  Ct 50 #[.slice A n c, .agg cs] w fun e w' => ∃ A' c', e = .returned (.slice A' 32 c') ∧ Bs w' A' 32 (rm xs x) ∧ Ext w w' := by
 have hz := H.size
 have E := Ext.refl w
 refine ai 10 func50 rfl rfl rfl rfl ?_
 intro _ hret
 refine aU ?_
 intro w1 g1 (B1 : ao _ _ _ (cs)) Vw ex
 obtain ⟨E,HA,H⟩ := bC ex E HA H
 refine aU ?_
 refine aC Kr 6 rfl ?_; intro Vx ex Vy
 obtain ⟨E,HA,H,B1⟩ := bO ex E HA H B1
 refine zm [0] ?_
 refine my 2 rfl (aY rfl Tn.u rfl (by rw [hz]; kernel_rfl) B1) ?_
 refine bD 1 rfl func48 rfl (kg A n c xs _ HA hn) ?_
 rintro e _ ⟨A2, c2, rfl, H2, ex⟩
 obtain ⟨E,H⟩ := ba ex E H
 refine aU ?_
 refine bD 3 rfl func119 rfl (rQ cs x _ H hs) ?_
 rintro e _ ⟨A3, k3, c3, rfl, R3, _, ex⟩
 obtain ⟨E,H2⟩ := ba ex E H2
 refine aU ?_
 refine bD 4 rfl func47 rfl (fy A2 A3 32 c2 k3 c3 32 y9 _ _ _ H2 Om (by decide) R3.bs Om Om) ?_
 rintro e _ ⟨A4, c4, rfl, H4, ex⟩
 replace E := E.ext ex
 refine zm [5] ?_
 refine hret rfl ?_
 exact ⟨A4, c4, rfl, H4, E⟩
theorem CW {w : World} {A0 A1 A2 A3 A4 A5 A6 A7 A8 A9 Vw Vx : Oa} {n0 n1 n2 n3 n4 n5 n6 n7 n8 n9 Vy Vz c0 c1 c2 c3 c4 c5 c6 c7 c8 c9 c10 c11 : Nat} {x0 x1 x2 x3 x4 x5 x6 x7 x8 x9 VA VB : Lb}
  (h0 : Bs w A0 n0 x0) (h1 : Bs w A1 n1 x1) (h2 : Bs w A2 n2 x2) (h3 : Bs w A3 n3 x3) (h4 : Bs w A4 n4 x4) (h5 : Bs w A5 n5 x5) (h6 : Bs w A6 n6 x6) (h7 : Bs w A7 n7 x7) (h8 : Bs w A8 n8 x8) (h9 : Bs w A9 n9 x9) (VC : Bs w Vw Vy VA) (VD : Bs w Vx Vz VB) :
  cP w #[.slice A0 n0 c0, .slice A1 n1 c1, .slice A2 n2 c2, .slice A3 n3 c3, .slice A4 n4 c4, .slice A5 n5 c5, .slice A6 n6 c6, .slice A7 n7 c7, .slice A8 n8 c8, .slice A9 n9 c9, .slice Vw Vy c10, .slice Vx Vz c11] [x0, x1, x2, x3, x4, x5, x6, x7, x8, x9, VA, VB] := by
 refine ⟨_, rfl, rfl, rfl, fun i hi => ?_⟩
 match i, hi with
 | 0, _ => exact ⟨_, _, _, rfl, h0⟩
 | 1, _ => exact ⟨_, _, _, rfl, h1⟩
 | 2, _ => exact ⟨_, _, _, rfl, h2⟩
 | 3, _ => exact ⟨_, _, _, rfl, h3⟩
 | 4, _ => exact ⟨_, _, _, rfl, h4⟩
 | 5, _ => exact ⟨_, _, _, rfl, h5⟩
 | 6, _ => exact ⟨_, _, _, rfl, h6⟩
 | 7, _ => exact ⟨_, _, _, rfl, h7⟩
 | 8, _ => exact ⟨_, _, _, rfl, h8⟩
 | 9, _ => exact ⟨_, _, _, rfl, h9⟩
 | 10, _ => exact ⟨_, _, _, rfl, VC⟩
 | 11, _ => exact ⟨_, _, _, rfl, VD⟩
theorem FP (A : Oa) (n c : Nat) (xs : Lb) (cs : Array Value) (x : Ctx) (w : World) (HA : Bs w A n xs) (hn : n ≤ 1000) (H : gY w cs x) (hs : x.Small) :
  Ct 17 #[.slice A n c, .agg cs] w fun e w' => ∃ ds, e = .returned (.agg ds) ∧ cP w' ds (bJ xs x) ∧ Ext w w' := by
 have hz := H.size
 have E := Ext.refl w
 refine aH (s := 12) 33 func17 rfl rfl rfl underlying44 rfl Kr rfl ?_
 intro _ hret
 refine aU ?_
 intro w1 g3 (B3 : ao _ _ _ (cs)) VF ex
 obtain ⟨E,HA,H⟩ := bC ex E HA H
 have E0 := E
 refine aU ?_
 intro w2 g4 (B4 : ao _ _ _ (CS)) Vy ex
 obtain ⟨E,HA,H,B3⟩ := bO ex E HA H B3
 have Vz := Nat.le_trans E0.size Vy
 refine au 5 ?_
 refine ak (aY rfl Tn.u rfl (by rw [hz]; kernel_rfl) B3) ?_
 refine aB func50 rfl (yO A n c xs cs x _ HA hn H hs) ?_
 rintro e _ ⟨Ae, ce, rfl, He, ex⟩
 obtain ⟨E,HA,B4⟩ := bC ex E HA B4
 refine aU ?_
 refine aB func48 rfl (kg A n c xs _ HA hn) ?_
 rintro e _ ⟨Am, cm, rfl, Hm, ex⟩
 obtain ⟨E,HA,B4,He⟩ := bO ex E HA B4 He
 refine aU ?_
 refine aB func51 rfl (dh Am 32 cm ib _ _ Hm Om (by decide)) ?_
 rintro e _ ⟨A1, c1, rfl, H1, ex⟩
 obtain ⟨E,HA,B4,He⟩ := bO ex E HA B4 He
 refine aU ?_
 refine aB func51 rfl (dh Ae 32 ce (eO 0) _ _ He Om (dZ 0)) ?_
 rintro e _ ⟨A3, c3, rfl, H3, ex⟩
 obtain ⟨E,HA,B4,He,H1⟩ := er ex E HA B4 He H1
 refine aU ?_
 refine aB func51 rfl (dh Ae 32 ce (eO 1) _ _ He Om (dZ 1)) ?_
 rintro e _ ⟨A4, c4, rfl, H4, ex⟩
 obtain ⟨E,HA,B4,He,H1,H3⟩ := iP ex E HA B4 He H1 H3
 refine aU ?_
 refine aB func51 rfl (dh Ae 32 ce (eO 2) _ _ He Om (dZ 2)) ?_
 rintro e _ ⟨A5, c5, rfl, H5, ex⟩
 obtain ⟨E,HA,B4,He,H1,H3,H4⟩ := iQ ex E HA B4 He H1 H3 H4
 refine aU ?_
 refine aB func51 rfl (dh Ae 32 ce (eO 3) _ _ He Om (dZ 3)) ?_
 rintro e _ ⟨A6, c6, rfl, H6, ex⟩
 obtain ⟨E,HA,B4,He,H1,H3,H4,H5⟩ := Kw ex E HA B4 He H1 H3 H4 H5
 refine aU ?_
 refine aB func51 rfl (dh Ae 32 ce (eO 4) _ _ He Om (dZ 4)) ?_
 rintro e _ ⟨A7, c7, rfl, H7, ex⟩
 obtain ⟨E,HA,B4,He,H1,H3,H4,H5,H6⟩ := rA ex E HA B4 He H1 H3 H4 H5 H6
 refine aU ?_
 refine aB func51 rfl (dh Ae 32 ce (eO 5) _ _ He Om (dZ 5)) ?_
 rintro e _ ⟨A8, c8, rfl, H8, ex⟩
 obtain ⟨E,HA,B4,He,H1,H3,H4,H5,H6⟩ := rA ex E HA B4 He H1 H3 H4 H5 H6
 replace H7 := H7.ext ex
 refine aU ?_
 refine aB func51 rfl (dh Ae 32 ce (eO 6) _ _ He Om (dZ 6)) ?_
 rintro e _ ⟨A9, c9, rfl, H9, ex⟩
 obtain ⟨E,HA,B4,He,H1,H3,H4,H5,H6⟩ := rA ex E HA B4 He H1 H3 H4 H5 H6
 obtain ⟨H7,H8⟩ := ba ex H7 H8
 refine aU ?_
 refine aB func51 rfl (dh Ae 32 ce (eO 7) _ _ He Om (dZ 7)) ?_
 rintro e _ ⟨VA, c10, rfl, Vw, ex⟩
 obtain ⟨E,HA,B4,He,H1,H3,H4,H5,H6⟩ := rA ex E HA B4 He H1 H3 H4 H5 H6
 obtain ⟨H7,H8,H9⟩ := bC ex H7 H8 H9
 refine aU ?_
 refine aB func51 rfl (dh Ae 32 ce (eO 8) _ _ He Om (dZ 8)) ?_
 rintro e _ ⟨VB, c11, rfl, VC, ex⟩
 obtain ⟨E,HA,B4,He,H1,H3,H4,H5,H6⟩ := rA ex E HA B4 He H1 H3 H4 H5 H6
 obtain ⟨H7,H8,H9,Vw⟩ := bO ex H7 H8 H9 Vw
 refine au 1 ?_
 refine ak (aq rfl (cells := #[.slice A n c, .slice A1 32 c1, .slice Ae 32 ce, .slice A3 32 c3, .slice A4 32 c4, .slice A5 32 c5, .slice A6 32 c6, .slice A7 32 c7, .slice A8 32 c8, .slice A9 32 c9, .slice VA 32 c10, .slice VB 32 c11]) Kr) ?_
 have HS := CW (c0 := c) (c1 := c1) (c2 := ce) (c3 := c3) (c4 := c4) (c5 := c5) (c6 := c6) (c7 := c7) (c8 := c8) (c9 := c9) (c10 := c10) (c11 := c11) HA H1 He H3 H4 H5 H6 H7 H8 H9 Vw VC
 refine ag (ah rfl rfl Kr B4 rfl (by simp [Value.oneCell'])) rfl ?_
 rintro _ _ ⟨rfl, VD, cg⟩
 have VE := E.aE cg Vz; have Vx := HS.aE B4 zT cg
 refine aU ?_
 refine hret rfl VD rfl ?_
 exact ⟨_, rfl, Vx.congr (by unfold bJ rm rl; rfl), VE⟩
theorem rF (A B : Oa) (n c m d : Nat) (xss yss : List (List UInt8)) (w : World) (HA : pK w A n xss) (HB : pK w B m yss) (hn : n ≤ 1000000) (hx : ∀ x ∈ xss, x.length ≤ 1000000) (hy : ∀ x ∈ yss, x.length ≤ 1000000) :
  Ct 65 #[.slice A n c, .slice B m d] w fun e w' => e = .returned (.bool (decide (xss = yss))) ∧ Ext w w' := by
 have Vz := HA.1; have VA := HB.1
 have VB := HA; have VC := HB
 refine ai 27 func65 rfl rfl rfl rfl ?_
 intro _ hret
 refine aU ?_
 refine al rfl (fun VD => ?_) (fun VD => ?_)
 ·have hne : xss ≠ yss := fun e => by rw [e, VA] at Vz; omega
  refine aU ?_
  refine hret rfl ?_
  exact ⟨by rw [decide_eq_false hne], Ext.refl _⟩
 ·refine aU ?_
  refine az (fun n' L wr => ∃ i : Nat, L = [(0, .slice A n c), (1, .slice B m d), (5, .int .i64 (i : Int))] ∧ n' = n - i ∧ (i ≤ n ∧ Ext w wr ∧ xss.take i = yss.take i)) _ _ ⟨0, rfl, rfl, by omega, Ext.refl _, rfl⟩ Ls ?_
  rintro _ n' L wr ⟨i, rfl, rfl, _, E, ht⟩ VE
  refine aU ?_
  refine al rfl (fun VF => ?_) (fun VF => ?_)
  ·refine aU ?_
   refine aC Kr 10 rfl ?_; intro VK ex VL
   replace E := E.ext ex
   obtain ⟨b1, o1, A1, m1, d1, x1, VG, Vx, VH, H1⟩ := pK.get (VB.ext E) (k := i) Om
   obtain ⟨b2, o2, A2, m2, d2, x2, VI, Vy, VJ, H2⟩ := pK.get (VC.ext E) (k := i) Om
   subst VG; subst VI
   have z1 : m1 ≤ 1000000 := by
    rw [← H1.1, Vx.out, List.getD_eq_getElem?_getD, List.getElem?_eq_getElem Om]; exact hx _ (List.getElem_mem _)
   have z2 : m2 ≤ 1000000 := by
    rw [← H2.1, Vy.out, List.getD_eq_getElem?_getD, List.getElem?_eq_getElem Om]; exact hy _ (List.getElem_mem _)
   refine zm [0, 1, 2] ?_
   refine my 3 rfl (af rfl Tn.u rfl VH) ?_
   refine zm [4, 5, 6] ?_
   refine my 7 rfl (af rfl Tn.u rfl VJ) ?_
   refine bD 8 rfl func26 rfl (Cx A1 A2 m1 m2 d1 d2 x1 x2 _ H1 H2 Om Om) ?_
   rintro e _ ⟨rfl, ex⟩
   refine au 1 ?_
   have E3 := E.ext ex
   have e1 : x1 = xss[i]'Om := by rw [Vx.out, List.getD_eq_getElem?_getD, List.getElem?_eq_getElem Om]; rfl
   have e2 : x2 = yss[i]'Om := by rw [Vy.out, List.getD_eq_getElem?_getD, List.getElem?_eq_getElem Om]; rfl
   refine zm [9] ?_
   refine bA rfl (fun Vw => ?_) (fun Vw => ?_)
   ·have hd : x1 ≠ x2 := by simpa using Vw
    refine aU ?_
    refine hret rfl ?_
    have hne : xss ≠ yss := fun e => hd (by rw [e1, e2]; simp only [e])
    exact ⟨by rw [decide_eq_false hne], E3⟩
   ·have hd : x1 = x2 := by simpa using Vw
    refine au 8 ?_
    refine ae ?_
    refine VE _ _ ⟨i + 1, rfl, rfl, by omega, E3, by rw [List.take_succ_eq_append_getElem Om, List.take_succ_eq_append_getElem Om, ht, ← e1, ← e2, hd]⟩ Om Ls
  ·refine aU ?_
   refine hret rfl ?_
   have he : xss = yss := by
    rw [List.take_of_length_le Om, List.take_of_length_le Om] at ht; exact ht
   exact ⟨by rw [decide_eq_true he], E⟩
theorem AY {w : World} {g : Nat} {t : TypeId} {cs : Array Value} {l : List (List UInt8)} (H : cP w cs l) (B : ao w g t cs) : pK w (some ⟨g, 0, none⟩) 12 l := by
 obtain ⟨vs, rfl, h2, h3, h4⟩ := H
 refine ⟨h3, vs, by omega, At.gX B, fun i hi => ?_⟩
 obtain ⟨A, n, c, h5, h6⟩ := h4 i hi
 exact ⟨A, n, c, h5, h6⟩
theorem yI (cs ds : Array Value) (l m : List (List UInt8)) (w : World) (H : cP w cs l) (K : cP w ds m) (hl : ∀ x ∈ l, x.length ≤ 1000000) (hm : ∀ x ∈ m, x.length ≤ 1000000) :
  Ct 25 #[.agg cs, .agg ds] w fun e w' => e = .returned (.bool (decide (l = m))) ∧ Ext w w' := by
 have E := Ext.refl w
 have hcs : cs.size = 12 := H.size
 have LG : ds.size = 12 := K.size
 obtain ⟨a0, V5, V6, VI, _⟩ := H.get (i := 0) Om
 obtain ⟨b0, V7, V8, VJ, _⟩ := K.get (i := 0) Om
 obtain ⟨a1, V9, Wa, VK, _⟩ := H.get (i := 1) Om
 obtain ⟨b1, PN, Wb, VL, _⟩ := K.get (i := 1) Om
 obtain ⟨a2, Wc, We, VM, _⟩ := H.get (i := 2) Om
 obtain ⟨b2, Wf, Wg, VN, _⟩ := K.get (i := 2) Om
 obtain ⟨a3, Wh, Wi, VO, _⟩ := H.get (i := 3) Om
 obtain ⟨b3, Wj, Wk, VP, _⟩ := K.get (i := 3) Om
 obtain ⟨a4, Wl, Wm, VQ, _⟩ := H.get (i := 4) Om
 obtain ⟨b4, Qp, Wn, VR, _⟩ := K.get (i := 4) Om
 obtain ⟨a5, Wo, Wq, VS, _⟩ := H.get (i := 5) Om
 obtain ⟨b5, Wr, Ws, VT, _⟩ := K.get (i := 5) Om
 obtain ⟨a6, Wv, Ww, VU, _⟩ := H.get (i := 6) Om
 obtain ⟨b6, Wx, Wy, VV, _⟩ := K.get (i := 6) Om
 obtain ⟨a7, Wz, WA, VW, _⟩ := H.get (i := 7) Om
 obtain ⟨b7, WB, WD, VX, _⟩ := K.get (i := 7) Om
 obtain ⟨a8, WE, WG, VY, _⟩ := H.get (i := 8) Om
 obtain ⟨b8, WH, WI, VZ, _⟩ := K.get (i := 8) Om
 obtain ⟨a9, WO, WS, V0, _⟩ := H.get (i := 9) Om
 obtain ⟨b9, WT, WU, V4, _⟩ := K.get (i := 9) Om
 obtain ⟨WV, VA, VB, Vw, _⟩ := H.get (i := 10) Om
 obtain ⟨WW, VC, VD, Vx, _⟩ := K.get (i := 10) Om
 obtain ⟨WX, VE, VF, Vy, _⟩ := H.get (i := 11) Om
 obtain ⟨WY, VG, VH, Vz, _⟩ := K.get (i := 11) Om
 have ecs : cs = #[.slice a0 V5 V6, .slice a1 V9 Wa, .slice a2 Wc We, .slice a3 Wh Wi, .slice a4 Wl Wm, .slice a5 Wo Wq, .slice a6 Wv Ww, .slice a7 Wz WA, .slice a8 WE WG, .slice a9 WO WS, .slice WV VA VB, .slice WX VE VF] := by
  apply Array.ext_getElem?
  intro i
  match i with
  | 0 => rw [VI]; rfl
  | 1 => rw [VK]; rfl
  | 2 => rw [VM]; rfl
  | 3 => rw [VO]; rfl
  | 4 => rw [VQ]; rfl
  | 5 => rw [VS]; rfl
  | 6 => rw [VU]; rfl
  | 7 => rw [VW]; rfl
  | 8 => rw [VY]; rfl
  | 9 => rw [V0]; rfl
  | 10 => rw [Vw]; rfl
  | 11 => rw [Vy]; rfl
  | i + 12 => rw [Array.getElem?_eq_none Om]; simp
 have eds : ds = #[.slice b0 V7 V8, .slice b1 PN Wb, .slice b2 Wf Wg, .slice b3 Wj Wk, .slice b4 Qp Wn, .slice b5 Wr Ws, .slice b6 Wx Wy, .slice b7 WB WD, .slice b8 WH WI, .slice b9 WT WU, .slice WW VC VD, .slice WY VG VH] := by
  apply Array.ext_getElem?
  intro i
  match i with
  | 0 => rw [VJ]; rfl
  | 1 => rw [VL]; rfl
  | 2 => rw [VN]; rfl
  | 3 => rw [VP]; rfl
  | 4 => rw [VR]; rfl
  | 5 => rw [VT]; rfl
  | 6 => rw [VV]; rfl
  | 7 => rw [VX]; rfl
  | 8 => rw [VZ]; rfl
  | 9 => rw [V4]; rfl
  | 10 => rw [Vx]; rfl
  | 11 => rw [Vz]; rfl
  | i + 12 => rw [Array.getElem?_eq_none Om]; simp
 refine ai 60 func25 rfl rfl rfl rfl ?_
 intro _ hret
 refine aU ?_
 intro w1 g1 (B1 : ao _ _ _ (cs)) WZ ex
 obtain ⟨E,H,K⟩ := bC ex E H K
 refine aU ?_
 intro w2 g2 (B2 : ao _ _ _ (ds)) W0 ex
 obtain ⟨E,H,K,B1⟩ := bO ex E H K B1
 refine au 6 ?_
 refine ak (af rfl Tn.u rfl (B1.get VI)) ?_
 refine au 1 ?_
 refine ak (af rfl Tn.u rfl (B1.get VK)) ?_
 refine au 1 ?_
 refine ak (af rfl Tn.u rfl (B1.get VM)) ?_
 refine au 1 ?_
 refine ak (af rfl Tn.u rfl (B1.get VO)) ?_
 refine au 1 ?_
 refine ak (af rfl Tn.u rfl (B1.get VQ)) ?_
 refine au 1 ?_
 refine ak (af rfl Tn.u rfl (B1.get VS)) ?_
 refine au 1 ?_
 refine ak (af rfl Tn.u rfl (B1.get VU)) ?_
 refine au 1 ?_
 refine ak (af rfl Tn.u rfl (B1.get VW)) ?_
 refine au 1 ?_
 refine ak (af rfl Tn.u rfl (B1.get VY)) ?_
 refine au 1 ?_
 refine ak (af rfl Tn.u rfl (B1.get V0)) ?_
 refine au 1 ?_
 refine ak (af rfl Tn.u rfl (B1.get Vw)) ?_
 refine au 1 ?_
 refine ak (af rfl Tn.u rfl (B1.get Vy)) ?_
 refine ag (aK (z := .slice none 0 0) Tn.u Kr rfl rfl rfl rfl rfl) rfl ?_
 rintro _ _ ⟨_, rfl, B3, _, ex⟩
 obtain ⟨E,H,K,B2⟩ := bO ex E H K B2
 refine au 6 ?_
 refine ak (af rfl Tn.u rfl (B2.get VJ)) ?_
 refine au 1 ?_
 refine ak (af rfl Tn.u rfl (B2.get VL)) ?_
 refine au 1 ?_
 refine ak (af rfl Tn.u rfl (B2.get VN)) ?_
 refine au 1 ?_
 refine ak (af rfl Tn.u rfl (B2.get VP)) ?_
 refine au 1 ?_
 refine ak (af rfl Tn.u rfl (B2.get VR)) ?_
 refine au 1 ?_
 refine ak (af rfl Tn.u rfl (B2.get VT)) ?_
 refine au 1 ?_
 refine ak (af rfl Tn.u rfl (B2.get VV)) ?_
 refine au 1 ?_
 refine ak (af rfl Tn.u rfl (B2.get VX)) ?_
 refine au 1 ?_
 refine ak (af rfl Tn.u rfl (B2.get VZ)) ?_
 refine au 1 ?_
 refine ak (af rfl Tn.u rfl (B2.get V4)) ?_
 refine au 1 ?_
 refine ak (af rfl Tn.u rfl (B2.get Vx)) ?_
 refine au 1 ?_
 refine ak (af rfl Tn.u rfl (B2.get Vz)) ?_
 refine ag (aK (z := .slice none 0 0) Tn.u Kr rfl rfl rfl rfl rfl) rfl ?_
 rintro _ _ ⟨_, rfl, B4, _, ex⟩
 obtain ⟨E,H,K,B3⟩ := bO ex E H K B3
 refine aU ?_
 refine aB func65 rfl (rF _ _ 12 12 12 12 l m _ (AY H (B3.congr ecs.symm)) (AY K (B4.congr eds.symm)) Om hl hm) ?_
 rintro e _ ⟨rfl, ex⟩
 replace E := E.ext ex
 refine aU ?_
 refine hret rfl ?_
 exact ⟨rfl, E⟩
end
section
open Go.RowKit Tryz
attribute [local irreducible] Y Ef WL WC WK WQ WM cE WN WF dc
def yi : ByteArray := ⟨#[107, 101, 121]⟩
def mf : ByteArray := ⟨#[110, 111, 110, 99, 101]⟩
theorem Dw (cs : Array Value) (l : List (List UInt8)) (B : Oa) (m d : Nat) (ys : Lb) (w : World) (HS : cP w cs l) (hl : (l.getD 8 []).length ≤ 1000) (HB : Bs w B m ys) (hm : m ≤ 1000) :
  Ct 45 #[.agg cs, .slice B m d] w fun e w' => ∃ A' c', e = .returned (.slice A' 32 c') ∧ Bs w' A' 32 (Mac.tag (l.getD 8 []) ys) ∧ Ext w w' := by
 have hy := HB.1
 obtain ⟨A8, n8, c8, q8, H8⟩ := HS.get (i := 8) Om
 have hz := H8.1
 refine ai 10 func45 rfl rfl rfl rfl ?_
 intro _ hret
 refine aU ?_
 intro w0 g0 (B0 : ao _ _ _ (cs)) Vw ex
 obtain ⟨HB,H8⟩ := ba ex HB H8
 have E0 := ex
 refine au 6 ?_
 refine ak (af rfl Tn.u rfl (B0.get q8)) ?_
 refine aU ?_
 refine ag (aK (z := .slice none 0 0) Tn.u Kr rfl rfl rfl rfl rfl) rfl ?_
 rintro _ _ ⟨_, rfl, B1, _, ex⟩
 obtain ⟨HB,H8⟩ := ba ex HB H8
 have E1 := E0.ext ex
 refine aB func112 rfl (uI A8 _ n8 c8 1 1 _ _ _ H8 Om (kQ B1 HB) Om So) ?_
 rintro e _ ⟨_, rfl, _, B2, ex⟩
 have E2 := E1.ext ex
 refine aU ?_
 refine hret rfl ?_
 exact ⟨_, 32, rfl, by have := bw B2 (Mac.dN _ _); simpa using this, E2⟩
theorem Cu (cs : Array Value) (l : List (List UInt8)) (w : World) (HS : cP w cs l) (hl : (l.getD 1 []).length ≤ 1000) :
  Ct 40 #[.agg cs] w fun e w' => ∃ A1 c1 A2 c2, e = .returned (.tuple #[.slice A1 16 c1, .slice A2 12 c2]) ∧ Bs w' A1 16 (Kdf.label (l.getD 1 []) yi.data.toList [] 16) ∧ Bs w' A2 12 (Kdf.label (l.getD 1 []) mf.data.toList [] 12) ∧ Ext w w' := by
 obtain ⟨A0, n0, c0, q0, H0⟩ := HS.get (i := 1) Om
 have z0 := H0.1
 have E := Ext.refl w
 refine bu 10 func40 rfl rfl rfl rfl ?_
 intro _ hret
 refine aU ?_
 intro w0 g0 (B0 : ao _ _ _ (cs)) Vw ex
 obtain ⟨E,H0⟩ := ba ex E H0
 refine aU ?_
 refine aC Kr 8 rfl ?_; intro Vx ex Vy
 obtain ⟨E,H0,B0⟩ := bC ex E H0 B0
 refine zm [0] ?_
 refine my 1 rfl (af rfl Tn.u rfl (B0.get q0)) ?_
 refine zm [3] ?_
 refine my 4 rfl (af rfl Tn.u rfl (B0.get q0)) ?_
 refine bD 2 rfl func98 rfl (jt A0 none n0 c0 0 0 16 yi _ [] _ H0 Om (by decide) (Bs.nil _ _) Om Om) ?_
 rintro e _ ⟨A1, c1, rfl, H1, ex⟩
 obtain ⟨E,H0⟩ := ba ex E H0
 refine aU ?_
 refine bD 5 rfl func98 rfl (jt A0 none n0 c0 0 0 12 mf _ [] _ H0 Om (by decide) (Bs.nil _ _) Om Om) ?_
 rintro e _ ⟨A2, c2, rfl, H2, ex⟩
 obtain ⟨E,H1⟩ := ba ex E H1
 refine zm [6, 7] ?_
 refine hret rfl rfl ?_
 exact ⟨A1, c1, A2, c2, rfl, H1, H2, E⟩
end
end Go.Proofs.YtgfafidlkldeaaaGreat
