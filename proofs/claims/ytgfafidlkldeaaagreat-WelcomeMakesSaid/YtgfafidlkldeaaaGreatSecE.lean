/- sched's transcripts, tags, locks and exports, and the reference's: what they hand back; the laws SchedTags, SchedExports. -/
import Derived.Test.YtgfafidlkldeaaaGreatDhB
import Derived.Test.YtgfafidlkldeaaaGreatAu
import Derived.Test.YtgfafidlkldeaaaGreatDhA
import Derived.Test.YtgfafidlkldeaaaGreatFieldQ
import Derived.Test.YtgfafidlkldeaaaGreatCtxA
import Derived.Test.YtgfafidlkldeaaaGreatSl
import Derived.Test.YtgfafidlkldeaaaGreatMacB
import Derived.Test.YtgfafidlkldeaaaGreatVs
set_option linter.unusedVariables false
set_option linter.unusedSimpArgs false
set_option maxHeartbeats 4000000
set_option maxRecDepth 4000
namespace Go.Proofs.YtgfafidlkldeaaaGreat
section
open Go.RowKit Tryz
attribute [local irreducible] Y Ef WL WC WK WQ WM cx WN WF cT
def kV (xs : Lb) : List UInt8 := ((Fp.pad xs).set 0 (UInt8.ofNat (((Fp.pad xs).getD 0 0).toNat / 8 * 8))).set 31 (UInt8.ofNat (((Fp.pad xs).getD 31 0).toNat % 64 + 64))
theorem p6 (xs : Lb) : (kV xs).length = 32 := by unfold kV; rw [List.length_set, List.length_set, Fp.cG]
theorem Hm : ∀ x : Fin 256, bits .andNot .u8 ((x.val : Nat) : Int) 7 = ((x.val / 8 * 8 : Nat) : Int) := by decide +kernel
theorem Lp : ∀ x : Fin 256, bits .and .u8 ((x.val : Nat) : Int) 63 = ((x.val % 64 : Nat) : Int) := by decide +kernel
theorem No : ∀ x : Fin 64, bits .or .u8 ((x.val : Nat) : Int) 64 = ((x.val + 64 : Nat) : Int) := by decide +kernel
theorem Cl (l : Lb) (i : Nat) (h : i < l.length) : (cJ l)[i]? = some (.int .u8 ((l.getD i 0).toNat : Int)) := by
 simp [cJ, bv, h]
theorem eR (l : Lb) (i : Nat) (x : UInt8) : (cJ l).setIfInBounds i (.int .u8 (x.toNat : Int)) = cJ (l.set i x) := by
 simp [cJ, bv, List.map_set]
theorem rl {n : Nat} (h : n < 256) : ((UInt8.ofNat n).toNat : Int) = (n : Int) := by rw [UInt8.toNat_ofNat']; omega
theorem zy (A : Oa) (n c : Nat) (xs : Lb) (w : World) (HA : Bs w A n xs) :
  Ct 239 #[.slice A n c] w fun e w' => ∃ g, e = .returned (.slice (some ⟨g, 0, none⟩) 32 32) ∧ Bs w' (some ⟨g, 0, none⟩) 32 (kV xs) ∧ Ext w w' := by
 have hl := HA.1
 have hpl := Fp.cG xs
 have HT : Bs w A (min n 32) (xs.take 32) := by
  have h := HA.take (Nat.min_le_left n 32)
  have e : xs.take (min n 32) = xs.take 32 := by
   rcases Nat.le_total n 32 with h | h
   ·rw [Nat.min_eq_left h, List.take_of_length_le Om, List.take_of_length_le Om]
   ·rw [Nat.min_eq_right h]
  rwa [e] at h
 obtain ⟨x0, Vl⟩ : ∃ x, x = ((Fp.pad xs).getD 0 0).toNat := ⟨_, rfl⟩
 obtain ⟨x1, Vm⟩ : ∃ x, x = ((Fp.pad xs).getD 31 0).toNat := ⟨_, rfl⟩
 have h0 : x0 < 256 := Vl ▸ UInt8.toNat_lt _
 have h1 : x1 < 256 := Vm ▸ UInt8.toNat_lt _
 refine aj 21 func239 rfl rfl rfl rfl ?_
 intro _ hret
 refine aU ?_
 refine af (dn (n := 32) (z := .int .u8 0) (bytes := 1) rfl rfl Tn.u Kr rfl rfl rfl rfl Om Om) rfl ?_
 rintro _ _ ⟨g, rfl, B1, hg, ex⟩
 have E1 := ex; replace B1 := B1.congr (show _ = cJ (fV 32) from rfl)
 refine aU ?_
 refine af (fz rfl rfl Tn.u Kr B1 (HT.wk E1).2 (by rw [List.length_map, HT.1]) (by rw [List.length_map, HT.1, aW]; simp [fV]; omega) aH) rfl ?_
 rintro _ _ ⟨rfl, B2, cg⟩
 have E2 := E1.aw cg hg; replace B2 := Au xs B2
 refine au 5 ?_
 refine ak (aD rfl rfl Tn.u Kr (j := 0) rfl Om) ?_
 refine ak (ah rfl Tn.u rfl (B2.get (Cl _ 0 Om))) ?_
 refine ak (vg rfl rfl (show bits .andNot .u8 _ 7 = ((x0 / 8 * 8 : Nat) : Int) by rw [← Vl]; exact Hm ⟨x0, h0⟩)) ?_
 refine ak (aD rfl rfl Tn.u Kr (j := 0) rfl Om) ?_
 rw [← rl (n := x0 / 8 * 8) Om]
 refine af (az rfl rfl rfl Kr B2 (by rw [aW]; omega)) rfl ?_
 rintro _ _ ⟨rfl, B3, cg⟩
 have E3 := E2.aw cg hg; rw [eR] at B3
 refine au 6 ?_
 refine ak (aD rfl rfl Tn.u Kr (j := 31) rfl Om) ?_
 refine ak (ah rfl Tn.u rfl (B3.get (Cl _ 31 (by rw [List.length_set]; omega)))) ?_
 refine ak (cD rfl rfl (show bits .and .u8 _ 63 = ((x1 % 64 : Nat) : Int) by rw [List.getD_eq_getElem?_getD, List.getElem?_set_ne Om, ← List.getD_eq_getElem?_getD, ← Vm]; exact Lp ⟨x1, h1⟩)) ?_
 refine ak (jk rfl rfl (No ⟨x1 % 64, by omega⟩)) ?_
 refine ak (aD rfl rfl Tn.u Kr (j := 31) rfl Om) ?_
 rw [← rl (n := x1 % 64 + 64) Om]
 refine af (az rfl rfl rfl Kr B3 (by rw [aW, List.length_set]; omega)) rfl ?_
 rintro _ _ ⟨rfl, B4, cg⟩
 have E4 := E3.aw cg hg; rw [eR] at B4
 refine aU ?_
 refine hret rfl ?_
 exact ⟨g, rfl, aZ (xs := kV xs) (B4.congr (by unfold kV; rw [← Vl, ← Vm])) (p6 xs), E4⟩
theorem pY (A : Oa) (n c : Nat) (xs : Lb) (f : FuncId) (us : List Value) (p : UInt8 → Bool) (fn : Func) (b : Code) (w : World) (HA : Bs w A n xs) (hn : n ≤ 1000000) (hf : Tryz.prog.funcs[f]? = some fn) (hb : fn.body = some b) (hnm : (fn.name == "runtime.NumGoroutine") = false)
  (hp : ∀ (x : UInt8) (w1 : World), Ext w w1 → Ct f ([Value.int .u8 (x.toNat : Int)] ++ us).toArray w1 fun e w' => e = .returned (.bool (p x)) ∧ Ext w1 w') :
  Ct 267 #[.slice A n c, .func (.func f) #[] us.toArray] w fun e w' => ∃ z : Int, e = .returned (.int .i64 z) ∧ (0 ≤ z ↔ xs.any p = true) ∧ Ext w w' := by
 have hl := HA.1
 refine aj 19 func267 rfl rfl rfl rfl ?_
 intro _ hret
 refine aU ?_
 refine aF (fun n' L wr => ∃ i : Nat, L = [(0, .slice A n c), (1, .func (.func f) #[] us.toArray), (7, .int .i64 (n : Int)), (8, .int .i64 (i : Int))] ∧ n' = n - i ∧ (i ≤ n ∧ Ext w wr ∧ (xs.take i).any p = false)) _ _ ⟨0, rfl, rfl, by omega, Ext.refl _, rfl⟩ Ls ?_
 rintro _ n' L wr ⟨i, rfl, rfl, _, E, hno⟩ Vm
 refine aU ?_
 refine al rfl (fun Vn => ?_) (fun Vn => ?_)
 ·obtain ⟨b1, Vo, x, rfl, hx, hcx⟩ := (HA.wk E).byte (k := i) Om
  have htk : xs.take (i + 1) = xs.take i ++ [x] := by
   rw [List.take_succ_eq_append_getElem Om, hx.out, List.getD_eq_getElem?_getD, List.getElem?_eq_getElem Om]; rfl
  refine au 16 ?_
  refine ak (ah rfl Tn.u rfl hcx) ?_
  refine af (lK (Φ := fun v w' => v = .bool (p x) ∧ Ext _ w') (xs := [_]) (vs := [.int .u8 (x.toNat : Int)]) rfl hf hb hnm rfl (hp x _ E) (fun _ _ h => ⟨_, h.1, rfl, h.2⟩)) rfl ?_
  rintro _ _ ⟨rfl, ex⟩
  have E2 := E.ext ex
  refine aU ?_
  refine bW rfl (fun Vl => ?_) (fun Vl => ?_)
  ·refine aU ?_
   refine hret rfl ?_
   refine ⟨i, rfl, ⟨fun _ => ?_, fun _ => by omega⟩, E2⟩
   rw [List.any_eq_true]
   exact ⟨x, List.mem_of_mem_take (i := i + 1) (by rw [htk]; simp), Vl⟩
  ·refine au 7 ?_
   refine ae ?_
   refine Vm _ _ ⟨i + 1, rfl, rfl, by omega, E2, by rw [htk, List.any_append, hno]; simpa using Vl⟩ Om Ls
 ·refine aU ?_
  refine hret rfl ?_
  refine ⟨-1, rfl, ⟨fun h => absurd h Om, fun h => ?_⟩, E⟩
  rw [List.take_of_length_le Om] at hno
  rw [hno] at h
  cases h
theorem mE (A : Oa) (n c : Nat) (xs : Lb) (f : FuncId) (us : List Value) (p : UInt8 → Bool) (fn : Func) (b : Code) (w : World) (HA : Bs w A n xs) (hn : n ≤ 1000000) (hf : Tryz.prog.funcs[f]? = some fn) (hb : fn.body = some b) (hnm : (fn.name == "runtime.NumGoroutine") = false)
  (hp : ∀ (x : UInt8) (w1 : World), Ext w w1 → Ct f ([Value.int .u8 (x.toNat : Int)] ++ us).toArray w1 fun e w' => e = .returned (.bool (p x)) ∧ Ext w1 w') :
  Ct 250 #[.slice A n c, .func (.func f) #[] us.toArray] w fun e w' => e = .returned (.bool (xs.any p)) ∧ Ext w w' := by
 refine aj 9 func250 rfl rfl rfl rfl ?_
 intro _ hret
 refine aU ?_
 refine aL func267 rfl (pY A n c xs f us p fn b _ HA hn hf hb hnm hp) ?_
 rintro e _ ⟨_, rfl, hz, ex⟩
 refine aU ?_
 refine hret rfl ?_
 exact ⟨(tM hz.symm).symm, ex⟩
theorem ub (x : UInt8) (w : World) : Ct 251 #[.int .u8 (x.toNat : Int)] w fun e w' => e = .returned (.bool (decide (x ≠ 0))) ∧ Ext w w' := by
 refine aj 5 func251 rfl rfl rfl rfl ?_
 intro _ hret
 refine aU ?_
 refine hret rfl ?_
 exact ⟨dJ ⟨fun h e => h (by rw [e]; rfl), fun h e => h (UInt8.toNat_inj.1 (by simpa using e))⟩, Ext.refl _⟩
end
section
open Go.RowKit Tryz
attribute [local irreducible] Y Ef WL WC WK WQ WM cx WN WF cT
def nY (xs ys : Lb) : List UInt8 × Nat := if xs.length ≠ 32 then ([], 1) else if ys.length ≠ 32 then ([], 3) else (Fp.le 32 (oZ (Fp.num (kV xs)) (Fp.of (Fp.Mv ys))).val, 0)
def uC (xs ys : Lb) : List UInt8 × Nat := if (nY xs ys).2 ≠ 0 then ([], (nY xs ys).2) else if (nY xs ys).1.any (fun x => decide (x ≠ 0)) then ((nY xs ys).1, 0) else ([], 9)
def IH (w : World) (r : List UInt8 × Nat) (e : Ending) (w' : World) : Prop := ∃ A k c, e = .returned (.tuple #[.slice A k c, .int .u8 (r.2 : Int)]) ∧ Bs w' A k r.1 ∧ (∀ b o, A = some ⟨b, o, none⟩ → w.heap.size ≤ b) ∧ Ext w w'
theorem qC (A B : Oa) (n c m d : Nat) (xs ys : Lb) (w : World) (HA : Bs w A n xs) (HB : Bs w B m ys) :
  Ct 198 #[.slice A n c, .slice B m d] w (IH w (nY xs ys)) := by
 have hx := HA.1; have hy := HB.1
 refine bK 19 func198 rfl rfl rfl rfl ?_
 intro _ hret
 refine aU ?_
 refine al rfl (fun Vl => ?_) (fun Vl => ?_)
 ·refine aU ?_
  refine hret rfl rfl ?_
  exact ⟨none, 0, 0, by rw [nY, if_pos Om]; rfl, by rw [nY, if_pos Om]; exact Bs.nil _ _, fun _ _ h => (by cases h), Ext.refl _⟩
 ·refine aU ?_
  refine al rfl (fun Vm => ?_) (fun Vm => ?_)
  ·refine aU ?_
   refine hret rfl rfl ?_
   exact ⟨none, 0, 0, by rw [nY, if_neg Om, if_pos Om]; rfl, by rw [nY, if_neg Om, if_pos Om]; exact Bs.nil _ _, fun _ _ h => (by cases h), Ext.refl _⟩
  ·have hM : nY xs ys = (Fp.le 32 (oZ (Fp.num (kV xs)) (Fp.of (Fp.Mv ys))).val, 0) := by rw [nY, if_neg Om, if_neg Om]
   refine aU ?_
   refine aL func239 rfl (zy A n c xs _ HA) ?_
   rintro e _ ⟨_, rfl, H1, ex⟩
   replace HB := HB.ext ex
   have E1 := ex
   refine aU ?_
   refine aL func240 rfl (EU B m d ys _ HB) ?_
   rintro e _ ⟨_, rfl, F2, ex⟩
   refine aU ?_
   replace H1 := H1.ext ex
   obtain ⟨f2, rfl, F2⟩ := F2.fe; have E2 := E1.ext ex
   refine aL func238 rfl (um _ 32 _ f2 _ _ H1 F2) ?_
   rintro e _ ⟨g3, rfl, _, B3, ex⟩
   have E3 := E2.ext ex; have hs := E2.size
   refine aU ?_
   refine hret rfl rfl ?_
   exact ⟨some ⟨g3, 0, none⟩, 32, 32, by rw [hM]; rfl, by rw [hM]; exact aZ B3 (Fp.cH 32 _), fun b o h => by injection h with h; injection h with h; omega, E3⟩
theorem vQ (A : Oa) (n c : Nat) (xs : Lb) (w : World) (HA : Bs w A n xs) :
  Ct 138 #[.slice A n c] w (IH w (nY xs (Fp.le 32 9))) := by
 refine bK 10 func138 rfl rfl rfl rfl ?_
 intro _ hret
 refine aU ?_
 refine aL func143 rfl (cP 9 _ Om) ?_
 rintro e _ ⟨_, rfl, F1, ex⟩
 refine aU ?_
 replace HA := HA.ext ex
 have E1 := ex
 refine aL func155 rfl (iQ F1 _) ?_
 rintro e _ ⟨_, rfl, _, B2, ex⟩
 refine aU ?_
 replace HA := HA.ext ex
 have E2 := E1.ext ex; have H2 := aZ B2 (Fp.cH 32 _)
 refine aL func198 rfl (qC A _ n c 32 32 xs (Fp.le 32 9) _ HA H2) ?_
 rintro e _ ⟨A3, k3, c3, rfl, H3, hf, ex⟩
 have E3 := E2.ext ex; have hs := E2.size
 refine aU ?_
 refine hret rfl rfl ?_
 exact ⟨A3, k3, c3, rfl, H3, fun b o h => by have := hf b o h; omega, E3⟩
theorem rS (A B : Oa) (n c m d : Nat) (xs ys : Lb) (w : World) (HA : Bs w A n xs) (HB : Bs w B m ys) :
  Ct 219 #[.slice A n c, .slice B m d] w (IH w (uC xs ys)) := by
 refine bK 23 func219 rfl rfl rfl rfl ?_
 intro _ hret
 refine aU ?_
 refine aL func198 rfl (qC A B n c m d xs ys _ HA HB) ?_
 rintro e w1 ⟨A1, k1, c1, rfl, H1, hf, ex⟩
 have E1 := ex; have Vm := H1.1; have hk : k1 ≤ 32 := by rw [← Vm]; unfold nY; split <;> (try split) <;> simp [Fp.cH]
 refine aU ?_
 refine al rfl (fun Vn => ?_) (fun Vn => ?_)
 ·refine aU ?_
  refine hret rfl rfl ?_
  exact ⟨none, 0, 0, by rw [uC, if_pos Om], by rw [uC, if_pos Om]; exact Bs.nil _ _, fun _ _ h => (by cases h), E1⟩
 ·refine aU ?_
  refine aL func250 rfl (mE A1 k1 c1 _ 251 [] (fun x => decide (x ≠ 0)) _ _ _ H1 Om func251 rfl rfl (fun x w1 _ => ub x w1)) ?_
  rintro e _ ⟨rfl, ex⟩
  have E2 := E1.ext ex; have H2 := H1.ext ex
  refine aU ?_
  refine bW rfl (fun Vl => ?_) (fun Vl => ?_)
  ·have hno : ¬ (nY xs ys).1.any (fun x => decide (x ≠ 0)) = true := by simpa using Vl
   refine aU ?_
   refine hret rfl rfl ?_
   exact ⟨none, 0, 0, by rw [uC, if_neg Om, if_neg hno]; rfl, by rw [uC, if_neg Om, if_neg hno]; exact Bs.nil _ _, fun _ _ h => (by cases h), E2⟩
  ·have hno : (nY xs ys).1.any (fun x => decide (x ≠ 0)) = true := by simpa using Vl
   refine aU ?_
   refine hret rfl rfl ?_
   exact ⟨A1, k1, c1, by rw [uC, if_neg Om, if_pos hno]; rfl, by rw [uC, if_neg Om, if_pos hno]; exact H2, hf, E2⟩
end
section
open Go.RowKit Tryz
attribute [local irreducible] Y Ef WL WC WK WQ WM cx WN WF cT
open Hk
theorem nA (A : Oa) (n c : Nat) (xss : List (List UInt8)) (w : World) (ha : sN w A n xss) (hn : n ≤ 70368744177664) (hlen : xss.flatten.length ≤ 70368744177664) :
  Ct 184 #[.slice A n c] w fun e w' => ∃ A' k c', e = .returned (.slice A' k c') ∧ Row w' w.heap.size 5 A' k c' (xss.flatten.map bv) ∧ Ext w w' :=
 (fp A n c xss w ha hn hlen).mono fun _ _ ⟨A', k, c', h1, h2, h3⟩ => ⟨A', k, c', h1, h2, h3⟩
namespace Hk
def Ii : ByteArray := ⟨#[75, 69, 77, 0, 32]⟩
def vU : ByteArray := ⟨#[72, 80, 75, 69, 0, 32, 0, 1, 0, 1]⟩
def N0 : ByteArray := ⟨#[100, 107, 112, 95, 112, 114, 107]⟩
def Oe : ByteArray := ⟨#[115, 107]⟩
def N6 : ByteArray := ⟨#[101, 97, 101, 95, 112, 114, 107]⟩
def N9 : ByteArray := ⟨#[115, 104, 97, 114, 101, 100, 95, 115, 101, 99, 114, 101, 116]⟩
def Mz : ByteArray := ⟨#[112, 115, 107, 95, 105, 100, 95, 104, 97, 115, 104]⟩
def inf : ByteArray := ⟨#[105, 110, 102, 111, 95, 104, 97, 115, 104]⟩
def sec : ByteArray := ⟨#[115, 101, 99, 114, 101, 116]⟩
def Mf : ByteArray := ⟨#[107, 101, 121]⟩
def Mo : ByteArray := ⟨#[98, 97, 115, 101, 95, 110, 111, 110, 99, 101]⟩
def mj (xs : Lb) : List UInt8 := exp Ii (ext Ii [] N0 xs) Oe [] 32
def pU (xs : Lb) : List UInt8 := (nY (mj xs) (Fp.le 32 9)).1
def Nh (d enc pb : Lb) : List UInt8 := exp Ii (ext Ii [] N6 d) N9 (enc ++ pb) 32
def MC (xs ys : Lb) : List UInt8 × Nat := if (uC xs ys).2 ≠ 0 then ([], (uC xs ys).2) else (Nh (uC xs ys).1 ys (nY xs (Fp.le 32 9)).1, 0)
def ctx (is : Lb) : List UInt8 := 0 :: (ext vU [] Mz [] ++ ext vU [] inf is)
def Kx (s is : Lb) : List UInt8 := exp vU (ext vU s sec []) Mf (ctx is) 16
def Kz (s is : Lb) : List UInt8 := exp vU (ext vU s sec []) Mo (ctx is) 12
end Hk
theorem xw (nm lb : ByteArray) (xs is : Lb) (k : Nat) : (Hk.exp nm xs lb is k).length = k := Kdf.j9 _ _ _
theorem eu (nm lb : ByteArray) (xs ys : Lb) : (Hk.ext nm xs lb ys).length = 32 := Mac.dN _ _
theorem AP {xs : Lb} (hx : xs.length = 32) : (nY xs (Fp.le 32 9)).1.length = 32 ∧ (nY xs (Fp.le 32 9)).2 = 0 := by
 rw [nY, if_neg Om, if_neg (by rw [Fp.cH]; omega)]; exact ⟨Fp.cH _ _, rfl⟩
theorem fC (xs : Lb) : (mj xs).length = 32 := xw _ _ _ _ _
theorem cK (xs : Lb) : (pU xs).length = 32 := (AP (fC xs)).1
theorem mQ (A : Oa) (n c : Nat) (xs : Lb) (w : World) (HA : Bs w A n xs) (hn : n ≤ 10000) :
  Ct 66 #[.slice A n c] w fun e w' => ∃ A1 c1 A2 c2, e = .returned (.tuple #[.slice A1 32 c1, .slice A2 32 c2]) ∧ Bn w.heap.size w' A1 32 (mj xs) ∧ Bn w.heap.size w' A2 32 (pU xs) ∧ 32 ≤ c1 ∧ Ext w w' := by
 have E := Ext.refl w
 refine bK 14 func66 rfl rfl rfl rfl ?_
 intro _ hret
 refine aU ?_
 refine aL func137 rfl (eV Ii N0 none A 0 0 n c [] xs _ (Bs.nil _ _) Om HA hn (by decide) (by decide)) ?_
 rintro e _ ⟨A1, c1, rfl, H1, ex⟩
 replace E := E.ext ex
 refine aU ?_
 have z1 := E.size
 refine aL func136 rfl (gT Ii Oe A1 none 32 c1 0 0 32 _ [] _ H1 Om (Bs.nil _ _) Om (by decide) (by decide) Om) ?_
 rintro e _ ⟨A2, c2, rfl, ⟨H2, n2⟩, Vl, ex⟩
 replace E := E.ext ex
 refine aU ?_
 have z2 := E.size
 refine aL func138 rfl (vQ A2 32 c2 _ _ H2) ?_
 rintro e _ ⟨A3, k3, c3, rfl, H3, hf, ex⟩
 obtain ⟨E,H2⟩ := aY ex E H2
 have hl : k3 = 32 := by rw [← H3.1]; exact (AP H2.1).1
 refine aU ?_
 refine hret rfl rfl ?_
 subst hl; exact ⟨A2, c2, A3, c3, rfl, Bn.lo ⟨H2, n2⟩ z1, Bn.lo ⟨H3, hf⟩ z2, Vl, E⟩
theorem tL (A B C : Oa) (n c m d k q : Nat) (xs ys zs : Lb) (w : World) (HA : Bs w A n xs) (hn : n ≤ 1000) (HB : Bs w B m ys) (hm : m ≤ 1000) (HC : Bs w C k zs) (hk : k ≤ 1000) :
  Ct 220 #[.slice A n c, .slice B m d, .slice C k q] w fun e w' => ∃ A' c', e = .returned (.slice A' 32 c') ∧ Bs w' A' 32 (Nh xs ys zs) ∧ Ext w w' := by
 have E := Ext.refl w
 have Vm := HB.1; have Vn := HC.1
 refine aj 14 func220 rfl rfl rfl rfl ?_
 intro _ hret
 refine aU ?_
 refine aL func137 rfl (eV Ii N6 none A 0 0 n c [] xs _ (Bs.nil _ _) Om HA Om (by decide) (by decide)) ?_
 rintro e _ ⟨A1, c1, rfl, H1, ex⟩
 obtain ⟨HB,HC,E⟩ := bC ex HB HC E
 refine aU ?_
 refine af (aB (z := .slice none 0 0) Tn.u Kr rfl rfl rfl rfl rfl) rfl ?_
 rintro _ _ ⟨_, rfl, B2, _, ex⟩
 obtain ⟨HB,HC,E,H1⟩ := bU ex HB HC E H1
 have S2 := lP B2 HB HC
 refine aL func184 rfl (nA _ 2 2 [ys, zs] _ S2 Om So) ?_
 rintro e _ ⟨A3, k3, c3, rfl, R3, ex⟩
 refine aU ?_
 obtain ⟨E,H1⟩ := aY ex E H1
 have H3 := R3.bs; have Vl := H3.1; rw [show [ys, zs].flatten = ys ++ zs by simp] at H3 Vl; rw [List.length_append] at Vl
 refine aL func136 rfl (gT Ii N9 A1 A3 32 c1 k3 c3 32 _ (ys ++ zs) _ H1 Om H3 Om (by decide) (by decide) Om) ?_
 rintro e _ ⟨A4, c4, rfl, ⟨H4, _⟩, _, ex⟩
 replace E := E.ext ex
 refine aU ?_
 refine hret rfl ?_
 exact ⟨A4, c4, rfl, H4, E⟩
theorem Dg (xs ys : Lb) : (nY xs ys).2 < 256 := by
 unfold nY; split
 ·show 1 < 256; omega
 ·split
  ·show 3 < 256; omega
  ·show 0 < 256; omega
theorem DS (xs ys : Lb) : (uC xs ys).2 < 256 := by
 unfold uC; split
 ·exact Dg _ _
 ·split
  ·show 0 < 256; omega
  ·show 9 < 256; omega
theorem EH (xs ys : Lb) : (nY xs ys).1.length ≤ 32 := by
 unfold nY; split
 ·exact Nat.zero_le _
 ·split
  ·exact Nat.zero_le _
  ·exact Nat.le_of_eq (Fp.cH _ _)
theorem ER {xs ys : Lb} : (uC xs ys).1.length ≤ 32 := by
 unfold uC; split
 ·exact Nat.zero_le _
 ·split
  ·exact EH _ _
  ·exact Nat.zero_le _
def rk (pb sd : Lb) : List UInt8 × List UInt8 × Nat := if (uC (mj sd) pb).2 ≠ 0 then ([], [], (uC (mj sd) pb).2) else (Nh (uC (mj sd) pb).1 (pU sd) pb, pU sd, 0)
theorem zT (A B : Oa) (n c m d : Nat) (xs ys : Lb) (w : World) (HA : Bs w A n xs) (hn : n ≤ 1000) (HB : Bs w B m ys) (hm : m ≤ 1000) :
  Ct 189 #[.slice A n c, .slice B m d] w fun e w' => ∃ A' k c' A2 k2 c2, e = .returned (.tuple #[.slice A' k c', .slice A2 k2 c2, .int .u8 ((rk xs ys).2.2 : Int)]) ∧ Bs w' A' k (rk xs ys).1 ∧ Bn w.heap.size w' A2 k2 (rk xs ys).2.1 ∧ k ≤ 32 ∧ k2 ≤ 32 ∧ Ext w w' := by
 have E := Ext.refl w
 refine jQ 28 func189 rfl rfl rfl rfl ?_
 intro _ hret
 refine aU ?_
 have z1 := E.size
 refine aL func66 rfl (mQ B m d ys _ HB Om) ?_
 rintro e _ ⟨A1, c1, A2, c2, rfl, ⟨H1, _⟩, ⟨H2, n2⟩, Vl, ex⟩
 obtain ⟨HA,E⟩ := aY ex HA E
 refine aU ?_
 refine aL func219 rfl (rS A1 A 32 c1 n c (mj ys) xs _ H1 HA) ?_
 rintro e _ ⟨A3, k3, c3, rfl, H3, _, ex⟩
 obtain ⟨HA,E,H2⟩ := bC ex HA E H2
 have Vm := H3.1; have Vn := ER (xs := mj ys) (ys := xs)
 refine aU ?_
 refine al rfl (fun Vl => ?_) (fun Vl => ?_)
 ·refine aU ?_
  refine hret rfl rfl rfl ?_
  exact ⟨none, 0, 0, none, 0, 0, by rw [rk, if_pos Om], by rw [rk, if_pos Om]; exact Bs.nil _ _, by rw [rk, if_pos Om]; exact Bn.nil _ _, by omega, by omega, E⟩
 ·refine aU ?_
  refine aL func220 rfl (tL A3 A2 A k3 c3 32 c2 n c _ _ xs _ H3 Om H2 Om HA hn) ?_
  rintro e _ ⟨A4, c4, rfl, H4, ex⟩
  obtain ⟨E,H2⟩ := aY ex E H2
  refine aU ?_
  refine hret rfl rfl rfl ?_
  exact ⟨A4, 32, c4, A2, 32, c2, by rw [rk, if_neg Om]; rfl, by rw [rk, if_neg Om]; exact H4, by rw [rk, if_neg Om]; exact Bn.lo ⟨H2, n2⟩ z1, by omega, by omega, E⟩
end
section
open Go.RowKit Tryz
attribute [local irreducible] Y Ef WL WC WK WQ WM cx WN WF cT
def eW (w : World) (cs : Array Value) (l : List (List UInt8)) : Prop := ∃ vs : List Value, cs = vs.toArray ∧ vs.length = 12 ∧ l.length = 12 ∧ ∀ i, i < 12 → ∃ A n c, vs[i]? = some (.slice A n c) ∧ Bs w A n (l.getD i [])
theorem eW.ext {w w' : World} {cs : Array Value} {l : List (List UInt8)} (h : eW w cs l) (k : Ext w w') : eW w' cs l := by
 obtain ⟨vs, h1, h2, h3, h4⟩ := h
 exact ⟨vs, h1, h2, h3, fun i hi => by obtain ⟨A, n, c, h5, h6⟩ := h4 i hi; exact ⟨A, n, c, h5, h6.ext k⟩⟩
theorem eW.get {w : World} {cs : Array Value} {l : List (List UInt8)} (h : eW w cs l) {i : Nat} (hi : i < 12) : ∃ A n c, cs[i]? = some (.slice A n c) ∧ Bs w A n (l.getD i []) := by
 obtain ⟨vs, rfl, h2, h3, h4⟩ := h
 obtain ⟨A, n, c, h5, h6⟩ := h4 i hi
 exact ⟨A, n, c, by simpa using h5, h6⟩
theorem eW.size {w : World} {cs : Array Value} {l : List (List UInt8)} (h : eW w cs l) : cs.size = 12 := by obtain ⟨vs, rfl, h2, _⟩ := h; simpa using h2
theorem sM (k s c : Lb) (n : Nat) : (Kdf.label k s c n).length = n := by unfold Kdf.label; exact Kdf.j9 _ _ _
theorem me (A B : Oa) (n c m d k : Nat) (s : ByteArray) (ks cs : Lb) (w : World) (HA : Bs w A n ks) (hn : n ≤ 35184372088832) (hs : s.size ≤ 1048576) (HB : Bs w B m cs) (hm : m ≤ 1048576) (hk : k ≤ 8160) :
  Ct 98 #[.slice A n c, .string s, .slice B m d, .int .i64 (k : Int)] w fun e w' => ∃ A' c', e = .returned (.slice A' k c') ∧ Bs w' A' k (Kdf.label ks s.data.toList cs k) ∧ Ext w w' := by
 refine aj 20 func98 rfl rfl rfl rfl ?_
 intro _ hret
 refine aU ?_
 refine aL func130 rfl (mK A B n c m d k s ks cs _ HA hn hs HB hm hk) ?_
 rintro e _ ⟨A1, c1, rfl, ⟨H1, _⟩, _, ex⟩
 refine aU ?_
 refine hret rfl ?_
 exact ⟨A1, c1, rfl, H1, ex⟩
end
section
open Go.RowKit Tryz
attribute [local irreducible] Y Ef WL WC WK WQ WM cx WN WF cT
def zG : ByteArray := ⟨#[107, 101, 121]⟩
def mA : ByteArray := ⟨#[110, 111, 110, 99, 101]⟩
theorem yY (cs : Array Value) (l : List (List UInt8)) (w : World) (HS : eW w cs l) (hl : (l.getD 1 []).length ≤ 1000) :
  Ct 40 #[.agg cs] w fun e w' => ∃ A1 c1 A2 c2, e = .returned (.tuple #[.slice A1 16 c1, .slice A2 12 c2]) ∧ Bs w' A1 16 (Kdf.label (l.getD 1 []) zG.data.toList [] 16) ∧ Bs w' A2 12 (Kdf.label (l.getD 1 []) mA.data.toList [] 12) ∧ Ext w w' := by
 obtain ⟨A0, n0, c0, q0, H0⟩ := HS.get (i := 1) Om
 have z0 := H0.1
 have E := Ext.refl w
 refine bK 10 func40 rfl rfl rfl rfl ?_
 intro _ hret
 refine aU ?_
 intro w0 g0 (B0 : ao _ _ _ (cs)) Vl ex
 obtain ⟨E,H0⟩ := aY ex E H0
 refine aU ?_
 refine aA Kr 8 rfl ?_; intro Vm ex Vn
 obtain ⟨E,H0,B0⟩ := bC ex E H0 B0
 refine zm [0] ?_
 refine my 1 rfl (ah rfl Tn.u rfl (B0.get q0)) ?_
 refine zm [3] ?_
 refine my 4 rfl (ah rfl Tn.u rfl (B0.get q0)) ?_
 refine bm 2 rfl func98 rfl (me A0 none n0 c0 0 0 16 zG _ [] _ H0 Om (by decide) (Bs.nil _ _) Om Om) ?_
 rintro e _ ⟨A1, c1, rfl, H1, ex⟩
 obtain ⟨E,H0⟩ := aY ex E H0
 refine aU ?_
 refine bm 5 rfl func98 rfl (me A0 none n0 c0 0 0 12 mA _ [] _ H0 Om (by decide) (Bs.nil _ _) Om Om) ?_
 rintro e _ ⟨A2, c2, rfl, H2, ex⟩
 obtain ⟨E,H1⟩ := aY ex E H1
 refine zm [6, 7] ?_
 refine hret rfl rfl ?_
 exact ⟨A1, c1, A2, c2, rfl, H1, H2, E⟩
end
end Go.Proofs.YtgfafidlkldeaaaGreat
