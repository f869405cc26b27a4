/- The bytes of packages and proposals: what msg and the reference hand back; bytes told of what may be. -/
import Derived.Test.YtgfafidlkldeaaaGreatWireR
import Derived.Test.YtgfafidlkldeaaaGreatAu
set_option linter.unusedVariables false
set_option linter.unusedSimpArgs false
set_option maxHeartbeats 4000000
set_option maxRecDepth 4000
namespace Go.Proofs.YtgfafidlkldeaaaGreat
open Go.RowKit Tryz
attribute [local irreducible] Ef WC WF WJ WK WL WM WN WQ Y cu db iC
variable {cs : Array Value} {v xs ys : Lb} {c d m n s : Nat} {A B : Oa} {w w' : aa9}
theorem ov (ha : Bs w A n xs) (hb : Bs w B m ys) (hn : n ≤ 140737488355328) (hm : m ≤ 140737488355328) :
  Ct 26 #[.slice A n c, .slice B m d] w fun e w' => e = .returned (.bool (decide (xs = ys))) ∧ Ext w w' :=
 (zh A B n m c d xs ys w ha hb hn hm).mono fun _ _ ⟨h1, k, h2⟩ => ⟨h1, by rw [h2]; exact Ext.drewN _ _⟩
structure bZ where
 box : List UInt8
 sign : List UInt8
 ident : List UInt8
 src : Nat
 parent : List UInt8
 sig : List UInt8
structure Ig where
 box : List UInt8
 hash : List UInt8
 late : List Int
structure Node where
 kind : Nat
 leaf : bZ
 par : Ig
def bZ.zero : bZ := ⟨[], [], [], 0, [], []⟩
def Ig.zero : Ig := ⟨[], [], []⟩
structure Hd where
 A : Option Addr
 n : Nat
 c : Nat
def ar : Hd := ⟨none, 0, 0⟩
def iK (h0 h1 h2 : Hd) (s : Nat) (h4 h5 : Hd) : Array Value := #[.slice h0.A h0.n h0.c, .slice h1.A h1.n h1.c, .slice h2.A h2.n h2.c, .int .u8 (s : Int), .slice h4.A h4.n h4.c, .slice h5.A h5.n h5.c]
def ki (B : Hd → List UInt8 → Prop) (cs : Array Value) (l : bZ) : Prop := ∃ h0 h1 h2 h4 h5, cs = iK h0 h1 h2 l.src h4 h5 ∧ l.src < 256 ∧ B h0 l.box ∧ B h1 l.sign ∧ B h2 l.ident ∧ B h4 l.parent ∧ B h5 l.sig
section
variable {B B' : Hd → List UInt8 → Prop} {Z Z' : Hd → List Int → Prop} {l : bZ} {p : Ig} {n : Node}
theorem ki.imp (h : ki B cs l) (f : ∀ h xs, B h xs → B' h xs) : ki B' cs l := by obtain ⟨h0, h1, h2, h4, h5, e, hs, b0, b1, b2, b4, b5⟩ := h;exact ⟨h0, h1, h2, h4, h5, e, hs, f _ _ b0, f _ _ b1, f _ _ b2, f _ _ b4, f _ _ b5⟩
end
abbrev qP (w : aa9) (h : Hd) (xs : Lb) : Prop := Bs w h.A h.n xs
def eS (w : aa9) (cs : Array Value) (l : bZ) : Prop := ki (qP w) cs l
section
variable {S S' : List Nat} {l : bZ} {p : Ig} {n : Node} {N k base base' : Nat}
theorem eS.ext (h : eS w cs l) (e : Ext w w') : eS w' cs l := ki.imp h fun _ _ b => Bs.ext b e
def jq : Array Value := iK ar ar ar 0 ar ar
end
/-! Which may be. -/
def cX (l : bZ) : Prop := l.box.length = 32 ∧ l.sign.length = 32 ∧ l.sig.length = 64 ∧ 1 ≤ l.ident.length ∧ l.ident.length ≤ 64 ∧ 1 ≤ l.src ∧ l.src ≤ 3 ∧ (l.parent.length = 0 ∨ l.src = 3 ∧ l.parent.length = 32)
instance (l : bZ) : Decidable (cX l) := by unfold cX; infer_instance
def rising : Int → List Int → Prop
 | _, [] => True
 | last, x :: xs => last < x ∧ x < 65536 ∧ rising x xs
def rising.dec : (last : Int) → (xs : List Int) → Decidable (rising last xs)
 | _, [] => .isTrue trivial
 | last, x :: xs => @instDecidableAnd _ _ _ (@instDecidableAnd _ _ _ (rising.dec x xs))
instance (last : Int) (xs : List Int) : Decidable (rising last xs) := rising.dec last xs
instance (a b : bZ) : Decidable (a = b) := by refine decidable_of_iff (a.box = b.box ∧ a.sign = b.sign ∧ a.ident = b.ident ∧ a.src = b.src ∧ a.parent = b.parent ∧ a.sig = b.sig) ⟨fun ⟨h1, h2, h3, h4, h5, h6⟩ => ?_, fun h => by subst h; exact ⟨rfl, rfl, rfl, rfl, rfl, rfl⟩⟩;cases a; cases b; simp_all
instance (a b : Ig) : Decidable (a = b) := by refine decidable_of_iff (a.box = b.box ∧ a.hash = b.hash ∧ a.late = b.late) ⟨fun ⟨h1, h2, h3⟩ => ?_, fun h => by subst h; exact ⟨rfl, rfl, rfl⟩⟩;cases a; cases b; simp_all
instance (a b : Node) : Decidable (a = b) := by refine decidable_of_iff (a.kind = b.kind ∧ a.leaf = b.leaf ∧ a.par = b.par) ⟨fun ⟨h1, h2, h3⟩ => ?_, fun h => by subst h; exact ⟨rfl, rfl, rfl⟩⟩;cases a; cases b; simp_all
theorem cW {p : Prop} [Decidable p] (h : ¬ p) : Ending.returned (.bool false) = .returned (.bool (decide p)) := by rw [decide_eq_false h]
theorem wO {p : Prop} [Decidable p] (h : p) : Ending.returned (.bool true) = .returned (.bool (decide p)) := by rw [decide_eq_true h]
theorem ot {l : bZ} (w : aa9) (H : eS w cs l) :
  Ct 140 #[.agg cs] w (ck w (.bool (decide (cX l)))) := by
 obtain ⟨h0, h1, h2, h4, h5, rfl, hs, b0, b1, b2, b4, b5⟩ := H;have l0 := b0.1; have l1 := b1.1; have l2 := b2.1; have l4 := b4.1; have l5 := b5.1;have E := Ext.refl w;refine ai 55 Tryz.func140 ?_;intro _ aa4;refine aU ?_;intro _ _ _ _ ex;replace E := E.ext ex;refine au 10 ?_;refine bL (kg rfl rfl) rfl (fun q0 => ?_) (fun q0 => ?_)
 ·refine au 15 ?_;refine bS rfl rfl ?_;refine aU ?_;exact aa4 rfl ⟨cW fun h => by unfold cX at h; omega, E⟩
 refine au 4 ?_;refine bN 8 rfl rfl (kg rfl rfl) rfl (fun q1 => ?_) (fun q1 => ?_)
 ·refine au 10 ?_;refine bS rfl rfl ?_;refine aU ?_;exact aa4 rfl ⟨cW fun h => by unfold cX at h; omega, E⟩
 refine au 5 ?_;refine bN 14 rfl rfl (kg rfl rfl) rfl (fun q2 => ?_) (fun q2 => ?_)
 ·refine au 4 ?_;refine bS rfl rfl ?_;refine aU ?_;exact aa4 rfl ⟨cW fun h => by unfold cX at h; omega, E⟩
 refine au 4 ?_;refine bm rfl rfl ?_;refine au 5 ?_;refine bL (fB rfl rfl) rfl (fun q3 => ?_) (fun q3 => ?_)
 ·refine au 9 ?_;refine bS rfl rfl ?_;refine aU ?_;exact aa4 rfl ⟨cW fun h => by unfold cX at h; omega, E⟩
 refine au 4 ?_;refine bN 25 rfl rfl (vP rfl rfl) rfl (fun q4 => ?_) (fun q4 => ?_)
 ·refine au 4 ?_;refine bS rfl rfl ?_;refine aU ?_;exact aa4 rfl ⟨cW fun h => by unfold cX at h; omega, E⟩
 refine au 4 ?_;refine bm rfl rfl ?_;refine au 4 ?_;refine bL (fB rfl rfl) rfl (fun q5 => ?_) (fun q5 => ?_)
 ·refine au 8 ?_;refine bS rfl rfl ?_;refine aU ?_;exact aa4 rfl ⟨cW fun h => by unfold cX at h; omega, E⟩
 refine au 3 ?_;refine bN 35 rfl rfl (vP rfl rfl) rfl (fun q6 => ?_) (fun q6 => ?_)
 ·refine au 4 ?_;refine bS rfl rfl ?_;refine aU ?_;exact aa4 rfl ⟨cW fun h => by unfold cX at h; omega, E⟩
 refine au 4 ?_;refine bm rfl rfl ?_;refine au 8 ?_;refine bL (ez rfl rfl) rfl (fun q7 => ?_) (fun q7 => ?_)
 ·refine aU ?_;refine fO 48 rfl rfl rfl ?_;refine fO 48 rfl rfl rfl ?_;refine fO 48 rfl rfl rfl ?_;refine fO 48 rfl rfl rfl ?_;refine aU ?_;exact aa4 rfl ⟨wO (by unfold cX; omega), E⟩
 refine au 3 ?_;refine bN 44 rfl rfl (ez rfl rfl) rfl (fun q8 => ?_) (fun q8 => ?_)
 ·refine au 4 ?_;refine bN 48 rfl rfl (ez rfl rfl) rfl (fun q9 => ?_) (fun q9 => ?_)
  ·refine aU ?_;exact aa4 rfl ⟨wO (by unfold cX; omega), E⟩
  refine aU ?_;exact aa4 rfl ⟨cW fun h => by unfold cX at h; omega, E⟩
 refine aU ?_;exact aa4 rfl ⟨cW fun h => by unfold cX at h; omega, E⟩
def bZ.Fit (l : bZ) : Prop := l.box.length ≤ 1000000 ∧ l.sign.length ≤ 1000000 ∧ l.ident.length ≤ 1000000 ∧ l.parent.length ≤ 1000000 ∧ l.sig.length ≤ 1000000
def Ig.Fit (p : Ig) : Prop := p.box.length ≤ 1000000 ∧ p.hash.length ≤ 1000000 ∧ p.late.length ≤ 1000000
def Node.Fit (n : Node) : Prop := n.leaf.Fit ∧ n.par.Fit
section
open Wire Nd
theorem VT (a b c d : UInt8) : nb [a, b, c, d] = ((a.toNat * 256 + b.toNat) * 256 + c.toNat) * 256 + d.toNat := by simp [nb]
end
theorem xi (HA : Bs w A n xs) (HB : Bs w B m ys) (hn : n ≤ 1000000000) (hm : m ≤ 1000000000) :
  Ct 162 #[.slice A n c, .slice B m d] w fun e w' => ∃ A' k c', e = .returned (.slice A' k c') ∧ Row w' w.heap.size 5 A' k c' ((xs ++ Wire.vec ys).map bv) ∧ k ≤ n + m + 4 ∧ Ext w w' :=
 (dS A B n c m d xs ys w HA Om HB Om).mono fun _ _ ⟨A', k, c', h1, h2, h3, h4⟩ => ⟨A', k, c', h1, h2, by have := Wire.bH m; omega, h4⟩
theorem fu (HB : Bs w B m ys) (hm : m ≤ 1000000000) :
  Ct 54 #[.slice B m d] w fun e w' => ∃ A' k c', e = .returned (.slice A' k c') ∧ Row w' w.heap.size 5 A' k c' ((Wire.vec ys).map bv) ∧ k ≤ m + 4 ∧ Ext w w' :=
 (iq B m d ys w HB Om).mono fun _ _ ⟨A', k, c', h1, h2, h3, h4⟩ => ⟨A', k, c', h1, h2, by have := Wire.bH m; omega, h4⟩
theorem cO (HA : Bs w A n xs) (HB : Bs w B m ys) (hn : n ≤ 1000000000) (hm : m ≤ 1000000000) :
  Ct 214 #[.slice A n c, .slice B m d] w fun e w' => ∃ A' c', e = .returned (.slice A' (n + m) c') ∧ Row w' w.heap.size 5 A' (n + m) c' ((xs ++ ys).map bv) ∧ Ext w w' := by
 refine ai 10 func214 ?_;intro _ aa4;refine aU ?_;refine af (aF (z := .int .u8 0) Tn.u Kr rfl rfl rfl rfl rfl) rfl ?_;rintro _ w1 ⟨g1, rfl, B1, YU, ex⟩;have E1 := ex; have R1 : Row w1 w.heap.size 5 (cf g1) 0 0 [] := Row.new B1 YU rfl (by unfold maxLen; omega);refine aU ?_;refine af (iA rfl rfl bV R1 (HA.ext E1).2 (by rw [List.length_map, HA.1]) aJ Om Om E1.size) rfl ?_;rintro _ _ ⟨_, _, rfl, R2, be, gr, hl⟩;have E2 := E1.trans be;refine aU ?_;refine af (aT rfl rfl bV R2 (HB.ext E2).2 (by rw [List.length_map, HB.1]) aJ Om Om E2.size) rfl ?_;rintro _ _ ⟨A3, c3, rfl, R3, be, gr, hl⟩;have E3 := E2.trans be;refine aU ?_;exact aa4 rfl ⟨A3, c3, rfl, R3.cat, E3⟩
def dJ (l : bZ) : List UInt8 := Wire.vec l.box ++ Wire.vec l.sign ++ Wire.vec l.ident ++ [UInt8.ofNat l.src] ++ (if l.src = 3 then Wire.vec l.parent else [])
def mJ (l : bZ) : List UInt8 := dJ l ++ Wire.vec l.sig
theorem eu (v : Lb) : (Wire.vec v).length ≤ v.length + 4 := by have := Wire.bH v.length; rw [Wire.jr]; omega
theorem mH {l : bZ} (hf : l.Fit) : (dJ l).length ≤ 4000017 := by
 obtain ⟨f0, f1, f2, f4, f5⟩ := hf;have h0 := eu l.box; have h1 := eu l.sign; have h2 := eu l.ident; have h4 := eu l.parent;unfold dJ;simp only [List.length_append, List.length_singleton];split
 ·omega
 simp only [List.length_nil]; omega
theorem LF {l : bZ} (hf : l.Fit) : (mJ l).length ≤ 5000021 := by have h := mH hf;have h5 := eu l.sig;obtain ⟨f0, f1, f2, f4, f5⟩ := hf;unfold mJ;rw [List.length_append]; omega
theorem BD (h : s < 256) : (Value.int .u8 (s : Int)) = bv (UInt8.ofNat s) := by unfold bv; congr 1; rw [UInt8.toNat_ofNat']; omega
theorem oZ {l : bZ} (w : aa9) (HA : Bs w A n xs) (hn : n ≤ 1000) (H : eS w cs l) (hf : l.Fit) :
  Ct 199 #[.slice A n c, .agg cs] w fun e w' => ∃ A' k c', e = .returned (.slice A' k c') ∧ Row w' w.heap.size 5 A' k c' ((xs ++ dJ l).map bv) ∧ Ext w w' := by
 obtain ⟨h0, h1, h2, h4, h5, rfl, hs, b0, b1, b2, b4, b5⟩ := H;have l0 := b0.1; have l1 := b1.1; have l4 := b4.1;have hU := mH hf;obtain ⟨f0, f1, f2, f4, f5⟩ := hf;have hxl := HA.1;have E := Ext.refl w
 obtain ⟨ys, hys⟩ : ∃ ys, ys = [l.box, l.sign, l.ident] := ⟨_, rfl⟩
 obtain ⟨fl, hfl⟩ : ∃ fl : Nat → List UInt8, fl = fun k => ((ys.take k).map Wire.vec).flatten := ⟨_, rfl⟩
 have hfs : ∀ k, k < 3 → fl (k + 1) = fl k ++ Wire.vec (ys.getD k []) := fun k hk => by
  rw [hfl, hys]
  match k, hk with
  | 0, _ => simp
  | 1, _ => simp
  | 2, _ => simp
 have hfle : ∀ k, k < 3 → (fl k).length ≤ 2000008 := fun k hk => by
  have h0 := eu l.box; have h1 := eu l.sign;rw [hfl, hys]
  match k, hk with
  | 0, _ => simp
  | 1, _ => simp; omega
  | 2, _ => simp; omega
 have hyl : ∀ k, k < 3 → (ys.getD k []).length ≤ 1000000 := fun k hk => by
  rw [hys]
  match k, hk with
  | 0, _ => exact f0
  | 1, _ => exact f1
  | 2, _ => exact f2
 refine ai 36 func199 ?_;intro _ aa4;refine aU ?_;intro YV YY B3 _ ex;replace E := E.ext ex;refine aU ?_;have E0 := E; have YW := B3.lt;refine af (aF (z := .slice none 0 0) Tn.u Kr rfl rfl rfl rfl rfl) rfl ?_;rintro _ w2 ⟨YX, rfl, YZ, _, ex⟩;obtain ⟨E,B3⟩ := aS ex E B3
 have F : Ext YV w2 := ex; have YU : sL w2 (cf YX) 3 ys := (by rw [hys]; exact km YZ (Bs.ext b0 E) (Bs.ext b1 E) (Bs.ext b2 E))
 refine aU ?_;refine aE (fun n' L wr => ∃ (k m e : Nat) (D : Oa), L = [(0, .slice D m e), (3, .pointer (cf YY)), (13, .slice (cf YX) 3 3), (14, .int .i64 3), (15, .int .i64 (k : Int))] ∧ n' = 3 - k ∧ (k ≤ 3 ∧ Bs wr D m (xs ++ fl k) ∧ (k ≠ 0 → Row wr YV.heap.size 5 D m e ((xs ++ fl k).map bv)) ∧ Ext YV wr ∧ aq wr YY 27 (iK h0 h1 h2 l.src h4 h5) ∧ sL wr (cf YX) 3 ys)) _ _ ⟨0, n, c, A, rfl, rfl, Om, by rw [hfl]; simpa using HA.ext E, fun h => absurd rfl h, F, B3, YU⟩ Ls ?_;rintro _ n' L wr ⟨k, m, e, D, rfl, rfl, hk, HD, hrow, F, B3, YU⟩ Y0;refine aa1 (fun Y2 => ?_) (fun Y2 => ?_)
 ·have hlt : k < 3 := Om
  obtain ⟨b, off, C, q, f, zs, e1, hzs, aa7, hC⟩ := YU.get hlt;injection e1 with e1
  injection e1 with Y3 Za _
  subst Y3; subst Za;have Zb := HD.1;have hq := hC.1;have hzl := hyl k hlt;rw [← hzs.out] at hzl;have hfk := hfle k hlt;rw [List.length_append] at Zb;have Zc := F.size;refine au 7 ?_;refine ak (ah rfl Tn.u rfl aa7) ?_;refine aU ?_;refine aB func162 rfl (xi HD hC Om Om) ?_;rintro e _ ⟨A4, k4, c4, rfl, R4, _, ex⟩;refine au 1 ?_;obtain ⟨F,B3,YU⟩ := bh ex F B3 YU;rw [hzs.out, List.append_assoc, ← hfs k hlt] at R4; replace R4 := R4.lower Zc;refine au 8 ?_;refine ae ?_;refine Y0 _ _ ⟨k + 1, k4, c4, A4, rfl, rfl, Om, R4.bs, fun _ => R4, F, B3, YU⟩ Om Ls
 obtain rfl : k = 3 := Om
 have R := hrow Om;have Zd : fl 3 = Wire.vec l.box ++ Wire.vec l.sign ++ Wire.vec l.ident := by rw [hfl, hys]; simp
 rw [Zd] at R;have hRl := R.len;rw [List.length_map, List.length_append] at hRl;have Zg : (Wire.vec l.box ++ Wire.vec l.sign ++ Wire.vec l.ident).length ≤ 4000017 := by unfold dJ at hU; simp only [List.length_append] at hU ⊢; omega
 refine au 9 ?_;refine ak (Y.as (ah rfl Tn.u rfl (B3.get (i := 3) rfl)) (BD hs)) ?_;refine af (aF (z := .int .u8 0) Tn.u Kr rfl rfl rfl rfl rfl) rfl ?_;rintro _ _ ⟨_, rfl, B5, _, ex⟩;replace R := R.ext ex;refine af (aT rfl rfl bV R (At.fA (vs := [UInt8.ofNat l.src].map bv) (B5.congr (by rfl))) rfl aJ Om Om (Nat.le_trans F.size ex.size)) rfl ?_;rintro _ _ ⟨A6, c6, rfl, R6, be, _, _⟩;replace F := (F.ext ex).trans be; replace R6 := R6.cat; replace B3 := (B3.ext ex).below be YW; have E := E0.tr F;refine aa1 (fun Ze => ?_) (fun Ze => ?_)
 ·refine aU ?_;have Zf := E.size;refine aB func162 rfl (xi R6.bs (Bs.ext b4 E) Om Om) ?_;rintro e _ ⟨A7, k7, c7, rfl, R7, _, ex⟩;replace E := E.ext ex;refine aU ?_;refine aa4 rfl ?_;refine ⟨A7, k7, c7, rfl, (R7.lower Zf).congr rfl ?_, E⟩;unfold dJ;rw [if_pos Om];simp only [List.append_assoc]
 refine aU ?_;refine aa4 rfl ?_;refine ⟨A6, _, c6, rfl, (R6.lower E0.size).congr rfl ?_, E⟩;unfold dJ;rw [if_neg Om];simp only [List.append_assoc, List.append_nil]
def nY (l : bZ) : List UInt8 × Nat := if cX l then (mJ l, 0) else ([], 3)
theorem oh {l : bZ} (w : aa9) (H : eS w cs l) (hf : l.Fit) :
  Ct 216 #[.agg cs] w fun e w' => ∃ A' k c', e = .returned (.tuple #[.slice A' k c', .int .u8 (((nY l).2 : Nat) : Int)]) ∧ Row w' w.heap.size 5 A' k c' ((nY l).1.map bv) ∧ Ext w w' := by
 have hU := mH hf;have HH := H;obtain ⟨h0, h1, h2, h4, h5, rfl, hs, b0, b1, b2, b4, b5⟩ := H;have l5 := b5.1;obtain ⟨f0, f1, f2, f4, f5⟩ := id hf;have E := Ext.refl w;refine aZ 12 func216 ?_;intro _ aa4;refine aU ?_;intro _ _ B1 _ ex;replace E := E.ext ex;refine aU ?_;refine aB func140 rfl (ot _ (HH.ext E)) ?_;rintro e _ ⟨rfl, ex⟩;obtain ⟨E,B1⟩ := aS ex E B1;refine aU ?_;refine bw rfl (fun YU => ?_) (fun YU => ?_)
 ·refine aU ?_;refine aa4 rfl rfl ?_;have hno : ¬ cX l := by simpa using YU
  have e1 : nY l = ([], 3) := by unfold nY; rw [if_neg hno]
  rw [e1];exact ⟨none, 0, 0, rfl, Row.empty _ _ _, E⟩
 refine aU ?_;refine aD Kr 7 rfl ?_; intro YX ex YY;obtain ⟨E,B1⟩ := aS ex E B1;refine zm [0, 2, 3] ?_;refine bC 1 rfl func199 rfl (oZ _ (Bs.nil _ none) Om (HH.ext E) hf) ?_;rintro e _ ⟨_, _, _, rfl, R3, ex⟩;refine aU ?_;replace E := E.ext ex;have YV := R3.bs.1;have YW := E.size; rw [List.nil_append] at YV;refine bC 4 rfl func162 rfl (xi R3.bs (Bs.ext b5 E) Om Om) ?_;rintro e _ ⟨A4, k4, c4, rfl, R4, _, ex⟩;replace E := E.ext ex;refine zm [5, 6] ?_;refine aa4 rfl rfl ?_;have hyes : cX l := by simpa using YU
 have e1 : nY l = (mJ l, 0) := by unfold nY; rw [if_pos hyes]
 rw [e1];exact ⟨A4, k4, c4, rfl, (R4.lower YW).congr rfl (by unfold mJ; rw [List.nil_append]), E⟩
section
namespace Wire
theorem Ob (h : n < 256) : (UInt8.ofNat n).toNat = n := by rw [UInt8.toNat_ofNat']; omega
theorem UH (a : UInt8) : nb [a] = a.toNat := by simp [nb]
theorem Xb (a b : UInt8) : nb [a, b] = a.toNat * 256 + b.toNat := by simp [nb]
theorem NL (h : n < 1073741824) (r : Lb) : se (len n ++ r) = .ok (n, r) := by
 unfold len;by_cases h1 : n < 64
 ·rw [if_pos h1];have hb : (UInt8.ofNat n).toNat = n := Ob Om;show se (UInt8.ofNat n :: r) = _;rw [qm (s := 1) Om (by rw [hb, show n / 64 = 0 by omega]), if_neg Om]
  have e : nb (UInt8.ofNat ((UInt8.ofNat n).toNat % 64) :: r.take (1 - 1)) = n := by rw [hb, Nat.sub_self, List.take_zero, UH, Ob Om]; omega
  rw [e, if_pos (by unfold jL; rw [if_pos h1])];rfl
 rw [if_neg h1];by_cases h2 : n < 16384
 ·rw [if_pos h2];have hb : (UInt8.ofNat (64 + n / 256)).toNat = 64 + n / 256 := Ob Om;show se (UInt8.ofNat (64 + n / 256) :: (UInt8.ofNat (n % 256) :: r)) = _;rw [qm (s := 2) Om (by rw [hb, show (64 + n / 256) / 64 = 1 by omega]), if_neg (by simp)]
  have e : nb (UInt8.ofNat ((UInt8.ofNat (64 + n / 256)).toNat % 64) :: (UInt8.ofNat (n % 256) :: r).take (2 - 1)) = n := by rw [hb, show 2 - 1 = 1 from rfl, List.take_succ_cons, List.take_zero, Xb, Ob Om, Ob Om]; omega
  rw [e, if_pos (by unfold jL; rw [if_neg h1, if_pos h2])];rfl
 rw [if_neg h2];have hb : (UInt8.ofNat (128 + n / 16777216)).toNat = 128 + n / 16777216 := Ob Om;show se (UInt8.ofNat (128 + n / 16777216) :: (UInt8.ofNat (n / 65536 % 256) :: UInt8.ofNat (n / 256 % 256) :: UInt8.ofNat (n % 256) :: r)) = _;rw [qm (s := 4) Om (by rw [hb, show (128 + n / 16777216) / 64 = 2 by omega]), if_neg (by simp)]
 have e : nb (UInt8.ofNat ((UInt8.ofNat (128 + n / 16777216)).toNat % 64) :: (UInt8.ofNat (n / 65536 % 256) :: UInt8.ofNat (n / 256 % 256) :: UInt8.ofNat (n % 256) :: r).take (4 - 1)) = n := by rw [hb, show 4 - 1 = 3 from rfl, List.take_succ_cons, List.take_succ_cons, List.take_succ_cons, List.take_zero, VT, Ob Om, Ob Om, Ob Om, Ob Om]; omega
 rw [e, if_pos (by unfold jL; rw [if_neg h1, if_neg h2])];rfl
theorem KL (h : v.length < 1073741824) (r : Lb) : AU (vec v ++ r) = .ok (v, r) := by unfold AU vec;rw [List.append_assoc, NL h];show (if (v ++ r).length < v.length then (.error 4 : Except Nat (List UInt8 × List UInt8)) else .ok ((v ++ r).take v.length, (v ++ r).drop v.length)) = _;rw [if_neg (by simp), List.take_left, List.drop_left]
theorem iP (h : v.length < 1073741824) (r : Lb) : iE (.ok (vec v ++ r)) = (v, .ok r) := by
 show (match AU (vec v ++ r) with
  | .error c => (([], .error c) : List UInt8 × St)
  | .ok (v, r) => (v, .ok r)) = _
 rw [KL h]
theorem qR (a : UInt8) (r : Lb) : iR 1 (.ok (a :: r)) = (a.toNat, .ok r) := by rw [sE, if_neg (by simp)];show (nb [a], _) = _;rw [UH]; rfl
end Wire
open Wire Nd
namespace Nd
def Good (s : St) : Prop := ∀ c, s = .error c → c ≠ 0
end Nd
end
section
open Wire Nd
def Node.Small (n : Node) : Prop := n.leaf.box.length ≤ 200 ∧ n.leaf.sign.length ≤ 200 ∧ n.leaf.ident.length ≤ 200 ∧ n.leaf.parent.length ≤ 200 ∧ n.leaf.sig.length ≤ 200 ∧ n.par.box.length ≤ 200 ∧ n.par.hash.length ≤ 200 ∧ n.par.late.length ≤ 60
instance (n : Node) : Decidable n.Small := by unfold Node.Small; exact inferInstance
theorem Node.Small.fit {n : Node} (h : n.Small) : n.Fit := by obtain ⟨h1, h2, h3, h4, h5, h6, h7, h8⟩ := h;exact ⟨⟨Om, Om, Om, Om, Om⟩, Om, Om, Om⟩
end
section
open Wire Nd
theorem Jw {l : bZ} (w : aa9) (H : eS w cs l) (hf : l.Fit) :
  Ct 215 #[.agg cs] w fun e w' => ∃ A' k c', e = .returned (.slice A' k c') ∧ Row w' w.heap.size 5 A' k c' ((dJ l).map bv) ∧ Ext w w' := by
 obtain ⟨h0, h1, h2, h4, h5, rfl, hs, b0, b1, b2, b4, b5⟩ := H;have l0 := b0.1; have l1 := b1.1; have l2 := b2.1; have l4 := b4.1;obtain ⟨f0, f1, f2, f4, f5⟩ := hf;have E := Ext.refl w;refine ai 28 func215 ?_;intro _ aa4;refine aU ?_;intro _ _ B1 _ ex;replace E := E.ext ex;refine aU ?_;refine aD Kr 16 rfl ?_; intro Zc ex Zd;obtain ⟨E,B1⟩ := aS ex E B1;refine zm [0, 1, 3, 4, 7, 8, 10] ?_;refine my 11 rfl (Y.as (ah rfl Tn.u rfl (B1.get (i := 3) rfl)) (BD hs)) ?_;refine mT 2 12 Kr ?_ ?_
 ·skip;refine jf rfl func54 rfl rfl rfl (fu (Bs.ext b0 E) Om) rfl ?_;rintro e w2 ⟨A2, k2, c2, rfl, R2, Zb, ex⟩;obtain ⟨E,B1⟩ := aS ex E B1;refine aU ?_;refine mT 5 12 Kr ?_ ?_
  ·skip;refine jf rfl func54 rfl rfl rfl (fu (Bs.ext b1 E) Om) rfl ?_;rintro e w3 ⟨A3, k3, c3, rfl, R3, Za, ex⟩;obtain ⟨E,B1,R2⟩ := bh ex E B1 R2;refine aU ?_;refine mT 6 12 Kr ?_ ?_
   ·skip;refine jf rfl func214 rfl rfl rfl (cO R2.bs R3.bs Om Om) rfl ?_;rintro e w4 ⟨A4, c4, rfl, R4, ex⟩;obtain ⟨E,B1⟩ := aS ex E B1;refine aU ?_;refine mT 9 12 Kr ?_ ?_
    ·skip;refine jf rfl func54 rfl rfl rfl (fu (Bs.ext b2 E) Om) rfl ?_;rintro e w5 ⟨A5, k5, c5, rfl, R5, YZ, ex⟩;obtain ⟨E,B1,R4⟩ := bh ex E B1 R4;refine aU ?_;refine aR 12 Kr ?_; refine bE rfl (aF (z := .int .u8 0) Tn.u Kr rfl rfl rfl rfl rfl) rfl ?_;rintro _ w6 ⟨g6, rfl, B6, Y0, ex⟩;refine ⟨.inr ex, ?_⟩;obtain ⟨E,B1,R4,R5⟩ := bG ex E B1 R4 R5;have H6 := aX (xs := [UInt8.ofNat l.src]) (B6.congr (by rfl)) rfl;refine bC 13 rfl func214 rfl (cO R5.bs H6 Om Om) ?_;rintro e w7 ⟨A7, c7, rfl, R7, ex⟩;obtain ⟨E,B1,R4⟩ := bh ex E B1 R4;refine aU ?_;have YU := E.size;refine bC 14 rfl func214 rfl (cO R4.bs R7.bs Om Om) ?_;rintro e w8 ⟨A8, c8, rfl, R8, ex⟩;obtain ⟨E,B1⟩ := aS ex E B1;replace R8 := R8.lower YU;refine zm [15] ?_;refine al rfl (fun YW => ?_) (fun YW => ?_)
     ·refine aU ?_;refine aB func54 rfl (fu (Bs.ext b4 E) Om) ?_;rintro e w9 ⟨A9, k9, c9, rfl, R9, Y2, ex⟩;obtain ⟨E,R8⟩ := aS ex E R8;refine aU ?_;have YV := E.size;refine aB func214 rfl (cO R8.bs R9.bs Om Om) ?_;rintro e Y3 ⟨YX, c10, rfl, YY, ex⟩;replace E := E.ext ex;refine aU ?_;exact aa4 rfl ⟨YX, _, c10, rfl, (YY.lower YV).congr rfl (by unfold dJ; rw [if_pos Om]; simp only [List.append_assoc]), E⟩
     refine aU ?_;exact aa4 rfl ⟨A8, _, c8, rfl, R8.congr rfl (by unfold dJ; rw [if_neg Om]; simp only [List.append_assoc, List.append_nil]), E⟩
    skip;refine bE rfl (aF (z := .int .u8 0) Tn.u Kr rfl rfl rfl rfl rfl) rfl ?_;rintro _ w6 ⟨g6, rfl, B6, Y0, ex⟩;refine ⟨.inr ex, ?_⟩;obtain ⟨E,B1,R4⟩ := bh ex E B1 R4;have H6 := aX (xs := [UInt8.ofNat l.src]) (B6.congr (by rfl)) rfl;refine bC 9 rfl func54 rfl (fu (Bs.ext b2 E) Om) ?_;rintro e w5 ⟨A5, k5, c5, rfl, R5, YZ, ex⟩;obtain ⟨E,B1,R4,H6⟩ := bG ex E B1 R4 H6;refine aU ?_;refine bC 13 rfl func214 rfl (cO R5.bs H6 Om Om) ?_;rintro e w7 ⟨A7, c7, rfl, R7, ex⟩;obtain ⟨E,B1,R4⟩ := bh ex E B1 R4;refine aU ?_;have YU := E.size;refine bC 14 rfl func214 rfl (cO R4.bs R7.bs Om Om) ?_;rintro e w8 ⟨A8, c8, rfl, R8, ex⟩;obtain ⟨E,B1⟩ := aS ex E B1;replace R8 := R8.lower YU;refine zm [15] ?_;refine al rfl (fun YW => ?_) (fun YW => ?_)
    ·refine aU ?_;refine aB func54 rfl (fu (Bs.ext b4 E) Om) ?_;rintro e w9 ⟨A9, k9, c9, rfl, R9, Y2, ex⟩;obtain ⟨E,R8⟩ := aS ex E R8;refine aU ?_;have YV := E.size;refine aB func214 rfl (cO R8.bs R9.bs Om Om) ?_;rintro e Y3 ⟨YX, c10, rfl, YY, ex⟩;replace E := E.ext ex;refine aU ?_;exact aa4 rfl ⟨YX, _, c10, rfl, (YY.lower YV).congr rfl (by unfold dJ; rw [if_pos Om]; simp only [List.append_assoc]), E⟩
    refine aU ?_;exact aa4 rfl ⟨A8, _, c8, rfl, R8.congr rfl (by unfold dJ; rw [if_neg Om]; simp only [List.append_assoc, List.append_nil]), E⟩
   skip;refine bE rfl (aF (z := .int .u8 0) Tn.u Kr rfl rfl rfl rfl rfl) rfl ?_;rintro _ w6 ⟨g6, rfl, B6, Y0, ex⟩;refine ⟨.inr ex, ?_⟩;obtain ⟨E,B1,R2,R3⟩ := bG ex E B1 R2 R3;have H6 := aX (xs := [UInt8.ofNat l.src]) (B6.congr (by rfl)) rfl;refine bC 6 rfl func214 rfl (cO R2.bs R3.bs Om Om) ?_;rintro e w4 ⟨A4, c4, rfl, R4, ex⟩;obtain ⟨E,B1,H6⟩ := bh ex E B1 H6;refine aU ?_;refine bC 9 rfl func54 rfl (fu (Bs.ext b2 E) Om) ?_;rintro e w5 ⟨A5, k5, c5, rfl, R5, YZ, ex⟩;obtain ⟨E,B1,H6,R4⟩ := bG ex E B1 H6 R4;refine aU ?_;refine bC 13 rfl func214 rfl (cO R5.bs H6 Om Om) ?_;rintro e w7 ⟨A7, c7, rfl, R7, ex⟩;obtain ⟨E,B1,R4⟩ := bh ex E B1 R4;refine aU ?_;have YU := E.size;refine bC 14 rfl func214 rfl (cO R4.bs R7.bs Om Om) ?_;rintro e w8 ⟨A8, c8, rfl, R8, ex⟩;obtain ⟨E,B1⟩ := aS ex E B1;replace R8 := R8.lower YU;refine zm [15] ?_;refine al rfl (fun YW => ?_) (fun YW => ?_)
   ·refine aU ?_;refine aB func54 rfl (fu (Bs.ext b4 E) Om) ?_;rintro e w9 ⟨A9, k9, c9, rfl, R9, Y2, ex⟩;obtain ⟨E,R8⟩ := aS ex E R8;refine aU ?_;have YV := E.size;refine aB func214 rfl (cO R8.bs R9.bs Om Om) ?_;rintro e Y3 ⟨YX, c10, rfl, YY, ex⟩;replace E := E.ext ex;refine aU ?_;exact aa4 rfl ⟨YX, _, c10, rfl, (YY.lower YV).congr rfl (by unfold dJ; rw [if_pos Om]; simp only [List.append_assoc]), E⟩
   refine aU ?_;exact aa4 rfl ⟨A8, _, c8, rfl, R8.congr rfl (by unfold dJ; rw [if_neg Om]; simp only [List.append_assoc, List.append_nil]), E⟩
  skip;refine bE rfl (aF (z := .int .u8 0) Tn.u Kr rfl rfl rfl rfl rfl) rfl ?_;rintro _ w6 ⟨g6, rfl, B6, Y0, ex⟩;refine ⟨.inr ex, ?_⟩;obtain ⟨E,B1,R2⟩ := bh ex E B1 R2;have H6 := aX (xs := [UInt8.ofNat l.src]) (B6.congr (by rfl)) rfl;refine bC 5 rfl func54 rfl (fu (Bs.ext b1 E) Om) ?_;rintro e w3 ⟨A3, k3, c3, rfl, R3, Za, ex⟩;obtain ⟨E,B1,R2,H6⟩ := bG ex E B1 R2 H6;refine aU ?_;refine bC 6 rfl func214 rfl (cO R2.bs R3.bs Om Om) ?_;rintro e w4 ⟨A4, c4, rfl, R4, ex⟩;obtain ⟨E,B1,H6⟩ := bh ex E B1 H6;refine aU ?_;refine bC 9 rfl func54 rfl (fu (Bs.ext b2 E) Om) ?_;rintro e w5 ⟨A5, k5, c5, rfl, R5, YZ, ex⟩;obtain ⟨E,B1,H6,R4⟩ := bG ex E B1 H6 R4;refine aU ?_;refine bC 13 rfl func214 rfl (cO R5.bs H6 Om Om) ?_;rintro e w7 ⟨A7, c7, rfl, R7, ex⟩;obtain ⟨E,B1,R4⟩ := bh ex E B1 R4;refine aU ?_;have YU := E.size;refine bC 14 rfl func214 rfl (cO R4.bs R7.bs Om Om) ?_;rintro e w8 ⟨A8, c8, rfl, R8, ex⟩;obtain ⟨E,B1⟩ := aS ex E B1;replace R8 := R8.lower YU;refine zm [15] ?_;refine al rfl (fun YW => ?_) (fun YW => ?_)
  ·refine aU ?_;refine aB func54 rfl (fu (Bs.ext b4 E) Om) ?_;rintro e w9 ⟨A9, k9, c9, rfl, R9, Y2, ex⟩;obtain ⟨E,R8⟩ := aS ex E R8;refine aU ?_;have YV := E.size;refine aB func214 rfl (cO R8.bs R9.bs Om Om) ?_;rintro e Y3 ⟨YX, c10, rfl, YY, ex⟩;replace E := E.ext ex;refine aU ?_;exact aa4 rfl ⟨YX, _, c10, rfl, (YY.lower YV).congr rfl (by unfold dJ; rw [if_pos Om]; simp only [List.append_assoc]), E⟩
  refine aU ?_;exact aa4 rfl ⟨A8, _, c8, rfl, R8.congr rfl (by unfold dJ; rw [if_neg Om]; simp only [List.append_assoc, List.append_nil]), E⟩
 skip;refine bE rfl (aF (z := .int .u8 0) Tn.u Kr rfl rfl rfl rfl rfl) rfl ?_;rintro _ w6 ⟨g6, rfl, B6, Y0, ex⟩;refine ⟨.inr ex, ?_⟩;obtain ⟨E,B1⟩ := aS ex E B1;have H6 := aX (xs := [UInt8.ofNat l.src]) (B6.congr (by rfl)) rfl;refine bC 2 rfl func54 rfl (fu (Bs.ext b0 E) Om) ?_;rintro e w2 ⟨A2, k2, c2, rfl, R2, Zb, ex⟩;obtain ⟨E,B1,H6⟩ := bh ex E B1 H6;refine aU ?_;refine bC 5 rfl func54 rfl (fu (Bs.ext b1 E) Om) ?_;rintro e w3 ⟨A3, k3, c3, rfl, R3, Za, ex⟩;obtain ⟨E,B1,H6,R2⟩ := bG ex E B1 H6 R2;refine aU ?_;refine bC 6 rfl func214 rfl (cO R2.bs R3.bs Om Om) ?_;rintro e w4 ⟨A4, c4, rfl, R4, ex⟩;obtain ⟨E,B1,H6⟩ := bh ex E B1 H6;refine aU ?_;refine bC 9 rfl func54 rfl (fu (Bs.ext b2 E) Om) ?_;rintro e w5 ⟨A5, k5, c5, rfl, R5, YZ, ex⟩;obtain ⟨E,B1,H6,R4⟩ := bG ex E B1 H6 R4;refine aU ?_;refine bC 13 rfl func214 rfl (cO R5.bs H6 Om Om) ?_;rintro e w7 ⟨A7, c7, rfl, R7, ex⟩;obtain ⟨E,B1,R4⟩ := bh ex E B1 R4;refine aU ?_;have YU := E.size;refine bC 14 rfl func214 rfl (cO R4.bs R7.bs Om Om) ?_;rintro e w8 ⟨A8, c8, rfl, R8, ex⟩;obtain ⟨E,B1⟩ := aS ex E B1;replace R8 := R8.lower YU;refine zm [15] ?_;refine al rfl (fun YW => ?_) (fun YW => ?_)
 ·refine aU ?_;refine aB func54 rfl (fu (Bs.ext b4 E) Om) ?_;rintro e w9 ⟨A9, k9, c9, rfl, R9, Y2, ex⟩;obtain ⟨E,R8⟩ := aS ex E R8;refine aU ?_;have YV := E.size;refine aB func214 rfl (cO R8.bs R9.bs Om Om) ?_;rintro e Y3 ⟨YX, c10, rfl, YY, ex⟩;replace E := E.ext ex;refine aU ?_;exact aa4 rfl ⟨YX, _, c10, rfl, (YY.lower YV).congr rfl (by unfold dJ; rw [if_pos Om]; simp only [List.append_assoc]), E⟩
 refine aU ?_;exact aa4 rfl ⟨A8, _, c8, rfl, R8.congr rfl (by unfold dJ; rw [if_neg Om]; simp only [List.append_assoc, List.append_nil]), E⟩
theorem uA {l : bZ} (w : aa9) (H : eS w cs l) (hf : l.Fit) :
  Ct 159 #[.agg cs] w fun e w' => ∃ A' k c', e = .returned (.slice A' k c') ∧ Row w' w.heap.size 5 A' k c' ((mJ l).map bv) ∧ Ext w w' := by
 have HH := H;have hU := mH hf;obtain ⟨h0, h1, h2, h4, h5, rfl, hs, b0, b1, b2, b4, b5⟩ := H;have l5 := b5.1;have f5 := hf.2.2.2.2;have E := Ext.refl w;refine ai 9 func159 ?_;intro _ aa4;refine aU ?_;intro _ _ B1 _ ex;replace E := E.ext ex;refine aU ?_;refine aD Kr 7 rfl ?_; intro YV ex YW;obtain ⟨E,B1⟩ := aS ex E B1;refine zm [0, 2, 3] ?_;refine bC 1 rfl func215 rfl (Jw _ (HH.ext E) hf) ?_;rintro e _ ⟨_, _, _, rfl, R2, ex⟩;refine aU ?_;replace E := E.ext ex;have YX := R2.bs.1;refine bC 4 rfl func54 rfl (fu (Bs.ext b5 E) Om) ?_;rintro e _ ⟨_, _, _, rfl, R3, _, ex⟩;obtain ⟨E,R2⟩ := aS ex E R2;refine aU ?_;have YU := E.size;refine bC 5 rfl func214 rfl (cO R2.bs R3.bs Om Om) ?_;rintro e _ ⟨A4, c4, rfl, R4, ex⟩;replace E := E.ext ex;refine zm [6] ?_;exact aa4 rfl ⟨A4, _, c4, rfl, R4.lower YU, E⟩
end
section
open Nd
structure Pack where
 init : List UInt8
 leaf : bZ
 sig : List UInt8
structure fT where
 kind : Nat
 pack : Pack
 leaf : bZ
 at_ : Int
def Pack.zero : Pack := ⟨[], bZ.zero, []⟩
def dK (i h0 h1 h2 : Hd) (s : Nat) (h4 h5 g : Hd) : Array Value := #[.slice i.A i.n i.c, .slice h0.A h0.n h0.c, .slice h1.A h1.n h1.c, .slice h2.A h2.n h2.c, .int .u8 (s : Int), .slice h4.A h4.n h4.c, .slice h5.A h5.n h5.c, .slice g.A g.n g.c]
def iO (B : Hd → List UInt8 → Prop) (cs : Array Value) (p : Pack) : Prop :=
 ∃ i h0 h1 h2 h4 h5 g, cs = dK i h0 h1 h2 p.leaf.src h4 h5 g ∧ p.leaf.src < 256 ∧ B i p.init ∧ B h0 p.leaf.box ∧ B h1 p.leaf.sign ∧ B h2 p.leaf.ident ∧ B h4 p.leaf.parent ∧ B h5 p.leaf.sig ∧ B g p.sig
section
variable {B B' : Hd → List UInt8 → Prop} {p : Pack} {q : fT}
theorem iO.imp (h : iO B cs p) (f : ∀ h xs, B h xs → B' h xs) : iO B' cs p := by obtain ⟨i, h0, h1, h2, h4, h5, g, e, hs, a, b0, b1, b2, b4, b5, c⟩ := h;exact ⟨i, h0, h1, h2, h4, h5, g, e, hs, f _ _ a, f _ _ b0, f _ _ b1, f _ _ b2, f _ _ b4, f _ _ b5, f _ _ c⟩
theorem iO.leaf (h : iO B cs p) : ki B ((cs.toList.drop 1).take 6).toArray p.leaf := by obtain ⟨i, h0, h1, h2, h4, h5, g, rfl, hs, a, b0, b1, b2, b4, b5, c⟩ := h;exact ⟨h0, h1, h2, h4, h5, rfl, hs, b0, b1, b2, b4, b5⟩
end
def dv (w : aa9) (cs : Array Value) (p : Pack) : Prop := iO (qP w) cs p
section
variable {p : Pack} {q : fT}
theorem dv.ext (h : dv w cs p) (e : Ext w w') : dv w' cs p := iO.imp h fun _ _ b => Bs.ext b e
theorem dv.leaf (h : dv w cs p) : eS w ((cs.toList.drop 1).take 6).toArray p.leaf := iO.leaf h
end
def Pack.Fit (p : Pack) : Prop := p.init.length ≤ 1000000 ∧ p.leaf.Fit ∧ p.sig.length ≤ 1000000
/-! Which may be. -/
def p9 (l : bZ) (s : Nat) : Prop := cX l ∧ l.src = s
instance (l : bZ) (s : Nat) : Decidable (p9 l s) := by unfold p9; infer_instance
def dn (p : Pack) : Prop := p.init.length = 32 ∧ p9 p.leaf 1 ∧ p.sig.length = 64
instance (p : Pack) : Decidable (dn p) := by unfold dn; infer_instance
theorem DD {l : bZ} : (nY l).2 = 0 ↔ cX l := by
 unfold nY;split
 ·rename_i h; exact ⟨fun _ => h, fun _ => rfl⟩
 rename_i h; exact ⟨fun e => by simp at e, fun k => absurd k h⟩
variable {l : bZ} {p : Pack} {q : fT}
theorem sh (w : aa9) (H : eS w cs l) (hf : l.Fit) :
  Ct 160 #[.agg cs, .int .u8 (s : Int)] w (ck w (.bool (decide (p9 l s)))) := by
 have HL := H;have hc := DD (l := l);obtain ⟨h0, h1, h2, h4, h5, rfl, hs, b0, b1, b2, b4, b5⟩ := H;have E := Ext.refl w;refine ai 20 func160 ?_;intro _ aa4;refine aU ?_;intro _ _ B2 _ ex;replace E := E.ext ex;refine aU ?_;refine aB func216 rfl (oh _ (HL.ext E) hf) ?_;rintro e _ ⟨_, _, _, rfl, _, ex⟩;obtain ⟨E,B2⟩ := aS ex E B2;refine au 12 ?_;refine bL (aL rfl) rfl (fun q0 => ?_) (fun q0 => ?_)
 ·refine aU ?_;exact aa4 rfl ⟨by rw [decide_eq_decide.2 (show (l.src : Int) = (s : Int) ↔ p9 l s from ⟨fun h => ⟨hc.1 Om, Om⟩, fun h => by rw [h.2]⟩)], E⟩
 refine aU ?_;exact aa4 rfl ⟨cW fun h => q0 (by rw [hc.2 h.1]; rfl), E⟩
theorem nK (w : aa9) (H : dv w cs p) (hf : p.Fit) :
  Ct 84 #[.agg cs] w (ck w (.bool (decide (dn p)))) := by
 have HL := H.leaf;obtain ⟨i, h0, h1, h2, h4, h5, g, rfl, hs, a, b0, b1, b2, b4, b5, c⟩ := H;have la := a.1; have lc := c.1;have E := Ext.refl w;refine ai 18 func84 ?_;intro _ aa4;refine aU ?_;intro _ _ B1 _ ex;replace E := E.ext ex;refine au 9 ?_;refine bL (aL rfl) rfl (fun q0 => ?_) (fun q0 => ?_)
 ·refine aU ?_;refine eT 7 rfl rfl func160 rfl rfl rfl (sh (s := 1) _ (HL.ext E) hf.2.1) rfl ?_;rintro e _ ⟨rfl, ex⟩;obtain ⟨E,B1⟩ := aS ex E B1;refine au 2 ?_;refine bL (aL rfl) rfl (fun q1 => ?_) (fun q1 => ?_)
  ·refine aU ?_;exact aa4 rfl ⟨dZ ⟨fun h => ⟨Om, q1, Om⟩, fun h => by have := h.2.2; omega⟩, E⟩
  refine aU ?_;exact aa4 rfl ⟨cW fun h => q1 h.2.1, E⟩
 refine aU ?_;exact aa4 rfl ⟨cW fun h => q0 (by rw [← la, h.1]; rfl), E⟩
end
section
open Nd
def Pack.Small (p : Pack) : Prop := p.init.length ≤ 100 ∧ p.sig.length ≤ 100 ∧ (⟨0, p.leaf, Ig.zero⟩ : Node).Small
instance (p : Pack) : Decidable p.Small := by unfold Pack.Small; infer_instance
def fT.Small (p : fT) : Prop := p.pack.Small ∧ (⟨0, p.leaf, Ig.zero⟩ : Node).Small
instance (p : fT) : Decidable p.Small := by unfold fT.Small; infer_instance
theorem Pack.Small.fit {p : Pack} (h : p.Small) : p.Fit := ⟨by have := h.1; omega, h.2.2.fit.1, by have := h.2.1; omega⟩
variable {p : Pack} {q : fT}
theorem Js (z : Int) (w : aa9) : Ct 183 #[.int .i64 z] w (ck w (.bool (decide (0 ≤ z ∧ z ≤ 65535)))) := by
 have E := Ext.refl w;refine ai 9 Tryz.func183 ?_;intro _ aa4;refine au 9 ?_;refine bL (aL rfl) rfl (fun q0 => ?_) (fun q0 => ?_)
 ·refine aU ?_;exact aa4 rfl ⟨dZ ⟨fun h => Om, fun h => Om⟩, E⟩
 refine aU ?_;exact aa4 rfl ⟨cW fun h => Om, E⟩
end
open Nd Wire
def lR (p : Pack) : List UInt8 := [0, 1, 0, 1] ++ vec p.init ++ mJ p.leaf
def yV (p : Pack) : List UInt8 := lR p ++ vec p.sig
theorem yJ {l : bZ} (h : (⟨0, l, Ig.zero⟩ : Node).Small) : (mJ l).length ≤ 1200 := by
 obtain ⟨f0, f1, f2, f4, f5, _⟩ := h;have f0 : l.box.length ≤ 200 := f0;have f1 : l.sign.length ≤ 200 := f1;have f2 : l.ident.length ≤ 200 := f2;have f4 : l.parent.length ≤ 200 := f4;have f5 : l.sig.length ≤ 200 := f5;have h0 := eu l.box; have h1 := eu l.sign; have h2 := eu l.ident; have h4 := eu l.parent; have h5 := eu l.sig;unfold mJ dJ;simp only [List.length_append, List.length_singleton];split
 ·omega
 simp only [List.length_nil]; omega
theorem mu {p : Pack} (h : p.Small) : (lR p).length ≤ 1400 := by have h1 := eu p.init; have h2 := yJ h.2.2; have h3 := h.1;unfold lR;simp only [List.length_append, List.length_cons, List.length_nil]; omega
theorem ND {p : Pack} (h : p.Small) : (yV p).length ≤ 1600 := by have h1 := eu p.sig; have h2 := mu h; have h3 := h.2.1;unfold yV;rw [List.length_append]; omega
theorem mF {ok : Bool} {f : FuncId} {us : List Value} {fn : Func} {b : Code} {Ψ : aa9 → Option Addr → Nat → Nat → Prop} (w : aa9) (hf : Tryz.prog.funcs[f]? = some fn) (hb : fn.body = some b) (hnm : (fn.name == "runtime.NumGoroutine") = false)
  (hp : ok = true → ∀ w1 : World, Ext w w1 → Ct f us.toArray w1 fun e w' => ∃ A k c, e = .returned (.slice A k c) ∧ Ψ w' A k c ∧ Ext w1 w') :
  Ct 83 #[.bool ok, .func (.func f) #[] us.toArray] w fun e w' => ∃ A k c, ∃ z : Nat, e = .returned (.tuple #[.slice A k c, .int .u8 (z : Int)]) ∧ (ok = true → z = 0 ∧ Ψ w' A k c) ∧ (ok = false → z = 3 ∧ A = none ∧ k = 0 ∧ c = 0) ∧ Ext w w' := by
 have E := Ext.refl w;refine aZ 10 func83 ?_;intro _ aa4;refine aU ?_;refine bw rfl (fun YU => ?_) (fun YU => ?_)
 ·refine aU ?_;exact aa4 rfl rfl ⟨none, 0, 0, 3, rfl, fun h => (by rw [h] at YU; cases YU), fun _ => ⟨rfl, rfl, rfl, rfl⟩, E⟩
 have hok : ok = true := by cases ok <;> simp_all
 refine aU ?_;refine af (kD (Φ := fun v w' => ∃ A k c, v = .slice A k c ∧ Ψ w' A k c ∧ Ext _ w') (xs := []) (vs := []) rfl hf hb hnm rfl (hp hok _ E) (fun _ _ ⟨A, k, c, h1, h2, h3⟩ => ⟨_, h1, A, k, c, rfl, h2, h3⟩)) rfl ?_;rintro _ _ ⟨A2, k2, c2, rfl, P2, ex⟩;replace E := E.ext ex;refine aU ?_;exact aa4 rfl rfl ⟨A2, k2, c2, 0, rfl, fun _ => ⟨rfl, P2⟩, fun h => (by rw [h] at hok; cases hok), E⟩
variable {l : bZ} {p : Pack} {q : fT}
theorem sf (w : aa9) (H : eS w cs l) (hf : l.Fit) (ok : cX l) :
  Ct 164 #[.agg cs] w fun e w' => ∃ A' k c', e = .returned (.slice A' k c') ∧ Row w' w.heap.size 5 A' k c' ((mJ l).map bv) ∧ Ext w w' := by
 have HL := H;have e1 : nY l = (mJ l, 0) := by unfold nY; rw [if_pos ok]
 obtain ⟨h0, h1, h2, h4, h5, rfl, hs, b0, b1, b2, b4, b5⟩ := H;have E := Ext.refl w;refine ai 11 func164 ?_;intro _ aa4;refine aU ?_;intro _ _ _ _ ex;replace E := E.ext ex;have YU := E.size;refine aU ?_;refine aB func216 rfl (oh _ (HL.ext E) hf) ?_;rintro e _ ⟨A2, k2, c2, rfl, R2, ex⟩;replace E := E.ext ex;rw [e1] at R2;refine aU ?_;exact aa4 rfl ⟨A2, k2, c2, rfl, R2.lower YU, E⟩
theorem py (w : aa9) (H : dv w cs p) (hf : p.Fit) (ok : dn p) :
  Ct 88 #[.agg cs] w fun e w' => ∃ A' k c', e = .returned (.slice A' k c') ∧ Row w' w.heap.size 5 A' k c' ((lR p).map bv) ∧ Ext w w' := by
 have HL := H.leaf;have hB := LF hf.2.1;have h6 := hf.1;obtain ⟨i, h0, h1, h2, h4, h5, g, rfl, hs, a, b0, b1, b2, b4, b5, c⟩ := H;have la := a.1;have E := Ext.refl w;refine ai 14 func88 ?_;intro _ aa4;refine aU ?_;intro _ _ B1 _ ex;replace E := E.ext ex;refine aU ?_;refine aB func163 rfl (jE none 0 0 2 1 [] _ (Bs.nil _ _) Om Om Om) ?_;rintro e _ ⟨A2, c2, rfl, R2, ex⟩;obtain ⟨E,B1⟩ := aS ex E B1;refine aU ?_;refine aB func163 rfl (jE A2 _ c2 2 1 _ _ R2.bs Om Om Om) ?_;rintro e _ ⟨A3, c3, rfl, R3, ex⟩;obtain ⟨E,B1⟩ := aS ex E B1;refine aU ?_;refine aD Kr 9 rfl ?_; intro YW ex YX;obtain ⟨E,B1,R3⟩ := bh ex E B1 R3;refine zm [0, 1, 2, 4, 5] ?_;have YU := E.size;refine bC 3 rfl func87 rfl (dy A3 i.A _ c3 i.n i.c _ _ _ R3.bs Om (Bs.ext a E) Om) ?_;rintro e _ ⟨_, _, _, rfl, R4, _, ex⟩;refine aU ?_;replace E := E.ext ex;have YY := bH i.n; replace R4 := R4.lower YU;refine bC 6 rfl func164 rfl (sf _ (HL.ext E) hf.2.1 ok.2.1.1) ?_;rintro e _ ⟨_, _, _, rfl, R5, ex⟩;refine aU ?_;obtain ⟨E,R4⟩ := aS ex E R4;have YZ := R5.bs.1;have YV := E.size;refine aR 7 Kr ?_; refine bE rfl (aT rfl rfl bV R4 R5.at R5.len aJ Om Om YV) rfl ?_;rintro _ _ ⟨A6, c6, rfl, R6, be, _, _⟩;refine ⟨.inl rfl, ?_⟩;replace E := E.trans be; have R7 := R6.cat;refine zm [8] ?_;exact aa4 rfl ⟨A6, _, c6, rfl, R7.congr rfl (by unfold lR; rw [List.nil_append]; rfl), E⟩
theorem uR (w : aa9) (H : dv w cs p) (YU : p.Small) :
  Ct 81 #[.agg cs] w fun e w' => ∃ A' k c', e = .returned (.slice A' k c') ∧ Row w' w.heap.size 5 A' k c' ((lR p).map bv) ∧ Ext w w' := by
 have HL := H.leaf;have hf := YU.fit;have hB := yJ YU.2.2;have h6 := YU.1;obtain ⟨i, h0, h1, h2, h4, h5, g, rfl, hs, a, b0, b1, b2, b4, b5, c⟩ := H;have la := a.1;have E := Ext.refl w;refine ai 13 func81 ?_;intro _ aa4;refine aU ?_;intro _ _ B1 _ ex;replace E := E.ext ex;refine aU ?_;refine aD Kr 11 rfl ?_; intro YW ex YX;obtain ⟨E,B1⟩ := aS ex E B1;refine zm [3, 4, 6, 7] ?_;refine bC 0 rfl func158 rfl (nt 1 _ Om) ?_;rintro e _ ⟨A2, c2, rfl, R2, ex⟩;replace E := E.ext ex;refine aU ?_;refine bC 1 rfl func158 rfl (nt 1 _ Om) ?_;rintro e _ ⟨A3, c3, rfl, R3, ex⟩;obtain ⟨E,R2⟩ := aS ex E R2;refine aU ?_;refine bC 2 rfl func80 rfl (ik A2 A3 _ c2 _ c3 _ _ _ R2.bs Om R3.bs Om) ?_;rintro e _ ⟨A4, c4, rfl, R4, ex⟩;replace E := E.ext ex;refine aU ?_;refine bC 5 rfl func82 rfl (kP i.A i.n i.c _ _ (Bs.ext a E) Om) ?_;rintro e _ ⟨A5, k5, c5, rfl, R5, _, ex⟩;refine aU ?_;obtain ⟨E,R4⟩ := aS ex E R4;have YY := bH i.n;refine bC 8 rfl func159 rfl (uA _ (HL.ext E) hf.2.1) ?_;rintro e _ ⟨A6, k6, c6, rfl, R6, ex⟩;refine aU ?_;obtain ⟨E,R4,R5⟩ := bh ex E R4 R5;have YZ := R6.bs.1;have YV := E.size;refine bC 9 rfl func122 rfl (mE A4 A5 A6 _ c4 k5 c5 k6 c6 _ _ _ _ R4.bs Om R5.bs Om R6.bs Om) ?_;rintro e _ ⟨A7, c7, rfl, R7, ex⟩;replace E := E.ext ex;refine zm [10] ?_;exact aa4 rfl ⟨A7, _, c7, rfl, (R7.lower YV).congr rfl (by unfold lR; rfl), E⟩
end Go.Proofs.YtgfafidlkldeaaaGreat
