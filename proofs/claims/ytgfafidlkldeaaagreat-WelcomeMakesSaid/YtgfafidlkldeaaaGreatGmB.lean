/- gcm: products of pairs. No conditions: contracts of functions. -/
import Derived.Test.YtgfafidlkldeaaaGreatAeD
import Derived.Test.YtgfafidlkldeaaaGreatAu
set_option linter.unusedVariables false
set_option linter.unusedSimpArgs false
set_option maxHeartbeats 4000000
set_option maxRecDepth 4000
namespace Go.Proofs.YtgfafidlkldeaaaGreat
section
open Go.RowKit Tryz
section
variable {P : Program} {L : List (Nat × Value)} {w : World} {ty t e : TypeId} {x y : Operand}
theorem tG {g base n c d : Nat} {A : Oa} {xs cs : List Value} {dT sT : TypeId} (hx : ev L x = some (.slice (some ⟨g, 0, none⟩) n c)) (hy : ev L y = some (.slice A n d)) (hu : P.underlying dT = some (.slice e)) (hs : (P.info? e).map (·.size) = some 1)
  (hown : Row w base e (some ⟨g, 0, none⟩) n c xs) (hr : At w A cs) (hn : cs.length = n) (h1 : ∀ v ∈ cs, v.oneCell' = true) :
  Ef P L w (.call { callee := .builtin .copy, args := #[x, y], argTypes := #[dT, sT] }) ty fun u w' => u = .int .i64 (cs.length : Int) ∧ Row w' base e (some ⟨g, 0, none⟩) n c cs ∧ j7 w g w' := by
 obtain ⟨hl, h⟩ := hown
 rcases h with ⟨h, _⟩ | ⟨g', cap, cur, hv, hb, hg, hc, hm, hz, ht⟩
 ·cases h
 ·injection hv with Vl h2 h3
  injection Vl with Vl
  injection Vl with e1 _ _
  subst e1; subst h3
  refine (fz (cur := cur) (cs := cs) hx hy hu hs hg hr (by rw [hn]; exact (Nat.min_self n).symm) Om h1).mono fun u w' ⟨Vm, hB, hC⟩ => ⟨Vm, ⟨by omega, .inr ⟨g, c, _, rfl, hb, hB, hc, hm, ?_, ?_⟩⟩, hC⟩
  ·simp; omega
  ·simp [hn]
theorem KV {z : Operand} {g n c' j : Nat} {k k2 : IntKind} {a b : Int} {e : TypeId} (hx : ev L x = some (.slice (some ⟨g, 0, none⟩) n c')) (hy : ev L y = some (.int k a)) (hz : ev L z = some (.int k2 b)) (hu : P.underlying t = some (.slice e)) (hs : (P.info? e).map (·.size) = some 1) (ha : a = (j : Int)) (hb : b = ((j + 4 : Nat) : Int)) (hj : j + 4 ≤ c') :
  Y P L w (.slice t x (some y) (some z) none) ty (.slice (some ⟨g, j, none⟩) 4 (c' - j)) := by
 have h := xI (w := w) (ty := ty) (s := 1) hx hy hz hu hs ha hb Om Om
 have e1 : kK (some ⟨g, 0, none⟩) c' j 1 = some ⟨g, j, none⟩ := by
  unfold kK; rw [if_neg Om]; simp [Addr.add]
  intro h; exact h.symm
 rw [e1, show j + 4 - j = 4 by omega] at h
 exact h
end
attribute [local irreducible] Y Ef WL WC WK WQ WM cx WN WF cT WJ gZ
open Ae
namespace Ae
def DT (s w : Lb) (n : Nat) : Nat → List UInt8
 | 0 => s
 | i + 1 => (DT s w n i).set i (UInt8.ofNat (cell (DT s w n i) i ^^^ cell w (16 * n + i)))
def Kg (T s : Lb) : Nat → List UInt8
 | 0 => List.replicate 16 0
 | i + 1 => (Kg T s i).set i (UInt8.ofNat (cell T (cell s ((i + i % 4 * 4) % 16))))
def LM (x : Lb) : Nat → List UInt8
 | 0 => x
 | i + 1 => mix (LM x i) (4 * i)
def FM (T w b : Lb) : Nat → List UInt8
 | 0 => b
 | n + 1 => LM (Kg T (DT (FM T w b n) w n 16) 16) (if n + 1 < 10 then 4 else 0)
def enc (key b : Lb) : List UInt8 := DT (FM box (keys box key) b 10) (keys box key) 10 16
theorem xv (s w : Lb) (n : Nat) : ∀ i, (DT s w n i).length = s.length
 | 0 => rfl
 | i + 1 => by rw [DT, List.length_set, xv s w n i]
theorem iU (T s : Lb) : ∀ i, (Kg T s i).length = 16
 | 0 => by rw [Kg, List.length_replicate]
 | i + 1 => by rw [Kg, List.length_set, iU T s i]
theorem gp (x : Lb) : ∀ i, (LM x i).length = x.length
 | 0 => rfl
 | i + 1 => by rw [LM, vS, gp x i]
theorem JH {T w b : Lb} (h : b.length = 16) : ∀ n, (FM T w b n).length = 16
 | 0 => h
 | n + 1 => by rw [FM, gp, iU]
end Ae
theorem MW (m : Nat) : ((m : Nat) : Int).tmod 4 = ((m % 4 : Nat) : Int) := by rw [Int.tmod_eq_emod_of_nonneg Om]; omega
theorem NR (m : Nat) {z : Int} (h : z = (m : Int)) : z.tmod 16 = ((m % 16 : Nat) : Int) := by subst h; exact Hn m
theorem oG {A B : Oa} {c d : Nat} {key fT : Lb} (w : World) (HA : Bs w A 16 key) (HB : Bs w B 16 fT) :
  Ct 174 #[.slice A 16 c, .slice B 16 d] w fun e w' => ∃ A' c', e = .returned (.tuple #[.slice A' 16 c', .bool true]) ∧ Row w' w.heap.size 5 A' 16 c' ((enc key fT).map bv) ∧ Ext w w' := by
 have E := Ext.refl w
 have hkl := HA.1
 obtain ⟨T, hT⟩ : ∃ T, T = box := ⟨_, rfl⟩
 have hTl : T.length = 256 := by rw [hT]; exact iM _
 have hEnc : enc key fT = DT (FM T (keys T key) fT 10) (keys T key) 10 16 := by rw [hT]; rfl
 have Vq := tD (T := T) hkl
 obtain ⟨W, hW⟩ : ∃ W, W = keys T key := ⟨_, rfl⟩
 rw [← hW] at hEnc Vq
 refine bK 91 func174 rfl rfl rfl rfl ?_
 intro _ hret
 refine au 6 ?_
 refine eY 0 (fun n' L wr => ∃ (n g6 g7 c7 g8 c8 : Nat) (w4 : World), L = [(6, .pointer (some ⟨g6, 0, none⟩)), (7, .slice (some ⟨g7, 0, none⟩) 176 c7), (8, .slice (some ⟨g8, 0, none⟩) 16 c8), (9, .int .i64 (n : Int))] ∧ n' = 10 - n ∧ (n ≤ 10 ∧ Ext w w4 ∧ ao w4 g6 265 (cJ T) ∧ Bs w4 (some ⟨g7, 0, none⟩) 176 W ∧ Ext w4 wr ∧ Row wr w4.heap.size 5 (some ⟨g8, 0, none⟩) 16 c8 ((FM T W fT n).map bv))) rfl ?_ ?_
 ·rintro G n' L wr ⟨n, g6, g7, c7, g8, c8, w4, rfl, rfl, _, E4, Vl, Vm, X, R⟩ Vo
  obtain ⟨S, hS⟩ : ∃ S, S = FM T W fT n := ⟨_, rfl⟩
  rw [← hS] at R
  refine au 9 ?_
  refine aF (fun n' L ws => ∃ (i : Nat), L = [(6, .pointer (some ⟨g6, 0, none⟩)), (7, .slice (some ⟨g7, 0, none⟩) 176 c7), (8, .slice (some ⟨g8, 0, none⟩) 16 c8), (9, .int .i64 (n : Int)), (30, .int .i64 16), (31, .int .i64 (i : Int))] ∧ n' = 16 - i ∧ (i ≤ 16 ∧ Ext w4 ws ∧ Row ws w4.heap.size 5 (some ⟨g8, 0, none⟩) 16 c8 ((DT S W n i).map bv))) _ _ ⟨0, rfl, rfl, Nat.zero_le _, X, R⟩ Ls ?_
  rintro _ n' L ws ⟨i, rfl, rfl, hi, X, R⟩ Vw
  refine au 2 ?_
  refine ak (dU rfl rfl) ?_
  refine au 3 ?_
  refine al rfl (fun Vx => ?_) (fun Vx => ?_)
  ·refine au 10 ?_
   obtain ⟨V, hV⟩ : ∃ V, V = DT S W n i := ⟨_, rfl⟩
   rw [← hV] at R
   have HV := R.bs
   have HWs := Vm.wk X
   refine aA Kr 14 rfl ?_; intro Vy ex Vz
   obtain ⟨X,R,HV,HWs⟩ := bU ex X R HV HWs
   refine cU 0 rfl (fun _ => bj rfl) ?_
   refine cU 1 rfl (fun _ => bj rfl) ?_
   refine cU 2 rfl (fun _ => aD rfl rfl Tn.u Kr (j := i) Om Om) ?_
   refine my 3 rfl (ah rfl Tn.u rfl (jt HV (k := i) Om)) ?_
   refine cU 4 rfl (fun _ => bj rfl) ?_
   refine cU 5 rfl (fun _ => bj rfl) ?_
   refine cU 6 rfl (fun _ => cz rfl rfl (br Om Om)) ?_
   refine cU 7 rfl (fun _ => bj rfl) ?_
   refine cU 8 rfl (fun _ => aN rfl rfl (br Om Om)) ?_
   refine cU 9 rfl (fun _ => aD rfl rfl Tn.u Kr (j := 16 * n + i) Om Om) ?_
   refine my 10 rfl (ah rfl Tn.u rfl (jt HWs (k := 16 * n + i) Om)) ?_
   refine cU 11 rfl (fun _ => bJ rfl rfl ((bN (Ae.c8 _ _) (Ae.c8 _ _)).2.2)) ?_
   refine cU 12 rfl (fun _ => aD rfl rfl Tn.u Kr (j := i) Om Om) ?_
   refine aM 13 Kr ?_; refine aO rfl (jR rfl rfl rfl Kr R Om) rfl ?_
   rintro _ VA ⟨rfl, VB, cg⟩
   refine ⟨.inl rfl, ?_⟩
   have VC := X.aw cg (R.lt).1; have VD : Row VA w4.heap.size 5 (some ⟨g8, 0, none⟩) 16 c8 ((V.set i (UInt8.ofNat (cell V i ^^^ cell W (16 * n + i)))).map bv) := (by rw [List.map_set, bv, eT (x8 (Ae.c8 _ _) (Ae.c8 _ _))]; exact VB)
   refine nQ Kr ?_
   refine au 4 ?_
   refine ak (aN rfl rfl (br Om Om)) ?_
   refine au 2 ?_
   refine ae ?_
   refine Vw _ _ ⟨i + 1, rfl, rfl, by omega, VC, (by rw [DT, ← hV]; exact VD)⟩ Om Ls
  ·obtain rfl : i = 16 := by omega
   obtain ⟨V, hV⟩ : ∃ V, V = DT S W n 16 := ⟨_, rfl⟩
   rw [← hV] at R
   refine au 9 ?_
   refine ak (cA rfl rfl) ?_
   refine au 2 ?_
   refine al rfl (fun VE => ?_) (fun VE => ?_)
   ·refine au 9 ?_
    refine cC ?_
    refine hret rfl rfl ?_
    obtain rfl : n = 10 := by omega
    exact ⟨_, c8, rfl, by rw [hEnc, ← hS, ← hV]; exact R.lower E4.size, E4.ext X⟩
   ·refine au 5 ?_
    refine ak (aN rfl rfl (br Om Om)) ?_
    have X0 := X; have R0 := R
    refine au 5 ?_
    refine af (dn (n := 16) (z := .int .u8 0) (bytes := 1) rfl rfl Tn.u Kr rfl rfl rfl rfl Om Om) rfl ?_
    rintro _ _ ⟨Vp, rfl, VF, Vn, ex⟩
    have VG := ex; have VH := VF.congr (cs' := cJ (List.replicate 16 0)) Kr
    refine au 12 ?_
    refine aF (fun n' L wq => ∃ (i : Nat), L = [(6, .pointer (some ⟨g6, 0, none⟩)), (7, .slice (some ⟨g7, 0, none⟩) 176 c7), (8, .slice (some ⟨g8, 0, none⟩) 16 c8), (9, .int .i64 ((n : Int) + 1)), (11, .slice (some ⟨Vp, 0, none⟩) 16 16), (55, .int .i64 16), (56, .int .i64 (i : Int))] ∧ n' = 16 - i ∧ (i ≤ 16 ∧ Ext ws wq ∧ ao wq Vp 5 (cJ (Kg T V i)))) _ _ ⟨0, rfl, rfl, Nat.zero_le _, VG, VH⟩ Ls ?_
    rintro _ n' L wq ⟨i, rfl, rfl, hi, Y, B⟩ VI
    refine au 2 ?_
    refine ak (dU rfl rfl) ?_
    refine au 3 ?_
    refine al rfl (fun VJ => ?_) (fun VJ => ?_)
    ·have HV := R0.bs.wk Y
     have TQ := (Vl.ext X0).ext Y
     have hxl := iU T V i
     refine au 16 ?_
     refine ak (cy rfl rfl Om (show _ = ((i % 4 : Nat) : Int) from MW i)) ?_
     refine ak (cz rfl rfl (br Om Om)) ?_
     refine ak (aN rfl rfl (br Om Om)) ?_
     refine ak (cy rfl rfl Om (show _ = (((i + i % 4 * 4) % 16 : Nat) : Int) from NR (i + i % 4 * 4) Om)) ?_
     refine ak (aD rfl rfl Tn.u Kr (j := (i + i % 4 * 4) % 16) Om Om) ?_
     refine ak (ah rfl Tn.u rfl (jt HV (k := (i + i % 4 * 4) % 16) Om)) ?_
     refine ak (bG rfl rfl Tn.u Kr (j := cell V ((i + i % 4 * 4) % 16)) Om (by have := Ae.c8 V ((i + i % 4 * 4) % 16); omega)) ?_
     refine ak (ah rfl Tn.u rfl (tv TQ (k := cell V ((i + i % 4 * 4) % 16)) (by rw [hTl]; exact Ae.c8 _ _))) ?_
     refine ak (aD rfl rfl Tn.u Kr (j := i) Om Om) ?_
     refine af (az rfl rfl rfl Kr B (by rw [aW, hxl]; omega)) rfl ?_
     rintro _ _ ⟨rfl, VK, cg⟩
     have VL := Y.aw cg Vn; have Vv := VK; rw [← eT (Ae.c8 T (cell V ((i + i % 4 * 4) % 16))), eR, Nat.zero_add] at Vv
     refine au 4 ?_
     refine ak (aN rfl rfl (br Om Om)) ?_
     refine au 2 ?_
     refine ae ?_
     refine VI _ _ ⟨i + 1, rfl, rfl, by omega, VL, Vv⟩ Om Ls
    ·obtain rfl : i = 16 := by omega
     obtain ⟨x, hx⟩ : ∃ x, x = Kg T V 16 := ⟨_, rfl⟩
     have hxl : x.length = 16 := by rw [hx]; exact iU _ _ _
     rw [← hx] at B
     refine au 12 ?_
     refine aF (fun n' L wu => ∃ (k : Nat), L = [(6, .pointer (some ⟨g6, 0, none⟩)), (7, .slice (some ⟨g7, 0, none⟩) 176 c7), (8, .slice (some ⟨g8, 0, none⟩) 16 c8), (9, .int .i64 ((n : Int) + 1)), (11, .slice (some ⟨Vp, 0, none⟩) 16 16), (13, .int .i64 ((4 * k : Nat) : Int))] ∧ n' = 4 - k ∧ (k ≤ 4 ∧ (n + 1 < 10 ∨ k = 0) ∧ Ext ws wu ∧ ao wu Vp 5 (cJ (LM x k)))) _ _ ⟨0, rfl, rfl, Nat.zero_le _, .inr rfl, Y, B⟩ Ls ?_
     rintro _ n' L wu ⟨k, rfl, rfl, _, _, Y, B⟩ VM
     refine au 4 ?_
     refine bH (dU rfl rfl) rfl (fun a1 => ?_) (fun a1 => ?_)
     ·refine au 2 ?_
      refine aG 76 rfl rfl (dU rfl rfl) rfl (fun a2 => ?_) (fun a2 => ?_)
      ·refine au 3 ?_
       refine bP rfl rfl ?_
       have hml := gp x k
       refine au 8 ?_
       refine ak (aN rfl rfl (br Om Om)) ?_
       refine ak (KV (j := 4 * k) rfl rfl rfl Tn.u Kr rfl Om Om) ?_
       refine aL func227 rfl (Eu _ B Om) ?_
       rintro e _ ⟨rfl, VN, ch⟩
       have VO := Y.ES ch (by simp; exact Vn)
       refine au 6 ?_
       refine ak (aN rfl rfl (br Om Om)) ?_
       refine au 2 ?_
       refine ae ?_
       refine VM _ _ ⟨k + 1, rfl, rfl, by omega, Om, VO, VN⟩ Om Ls
      ·refine au 3 ?_
       refine cm rfl rfl ?_
       have hml := gp x k
       have Vr : k = if n + 1 < 10 then 4 else 0 := by split <;> omega
       refine au 9 ?_
       refine af (tG rfl rfl Tn.u Kr (R0.ext Y) ((aZ B Om).2) (by rw [List.length_map]; omega) aH) rfl ?_
       rintro _ VP ⟨rfl, Vs, cg⟩
       have Vt := (X0.ext Y).aw cg (R0.lt).1
       refine au 3 ?_
       refine bZ ?_
       refine Vo _ _ ⟨n + 1, g6, g7, c7, g8, c8, w4, rfl, rfl, by omega, E4, Vl, Vm, Vt, (by rw [FM, ← hS, ← hV, ← hx, ← Vr]; exact Vs)⟩ Om Ls
     ·refine au 6 ?_
      refine cm rfl rfl ?_
      have hml := gp x k
      have Vr : k = if n + 1 < 10 then 4 else 0 := by split <;> omega
      refine au 9 ?_
      refine af (tG rfl rfl Tn.u Kr (R0.ext Y) ((aZ B Om).2) (by rw [List.length_map]; omega) aH) rfl ?_
      rintro _ VP ⟨rfl, Vs, cg⟩
      have Vt := (X0.ext Y).aw cg (R0.lt).1
      refine au 3 ?_
      refine bZ ?_
      refine Vo _ _ ⟨n + 1, g6, g7, c7, g8, c8, w4, rfl, rfl, by omega, E4, Vl, Vm, Vt, (by rw [FM, ← hS, ← hV, ← hx, ← Vr]; exact Vs)⟩ Om Ls
 ·intro G Vo
  have VQ := HA; have VR := HB
  refine au 5 ?_
  refine ak (Y.as (jr rfl rfl) (congrArg Value.bool (decide_eq_false Om))) ?_
  refine au 3 ?_
  refine kH 17 (Y.as (jr rfl rfl) (congrArg Value.bool (decide_eq_false Om))) ?_
  refine au 3 ?_
  refine cm rfl rfl ?_
  refine au 4 ?_
  refine aL func225 rfl (zS _) ?_
  rintro e _ ⟨rfl, ex⟩
  refine au 1 ?_
  obtain ⟨HA,HB,E⟩ := bC ex HA HB E
  rw [← hT]; have VT := E.size
  refine af (dL (Z := (List.replicate 256 (.int .u8 0)).toArray) Kr) rfl ?_
  rintro _ _ ⟨g6, rfl, D6, _, ex⟩
  obtain ⟨HA,HB,E⟩ := bC ex HA HB E
  refine af (ag rfl rfl (by rw [aW, hTl]; kernel_rfl) D6 (by rw [aW, hTl, List.size_toArray, List.length_replicate]) (jT _)) rfl ?_
  rintro _ _ ⟨rfl, T6, cg⟩
  replace E := E.aw cg Om; replace HA := VQ.wk E; replace HB := VR.wk E
  refine au 5 ?_
  refine ak (aV rfl Tn.u rfl (by rw [aW, hTl]; kernel_rfl) T6) ?_
  refine aL func226 rfl (vi _ HA hTl) ?_
  rintro e w4 ⟨_, c7, rfl, R7, ex⟩
  refine au 1 ?_
  obtain ⟨HB,E,T6⟩ := bC ex HB E T6
  rw [← hW] at R7; obtain ⟨g7, _, rfl, _⟩ := R7.get (i := 0) Om; have Vm := R7.bs; have Vl := T6; have E4 := E
  refine au 5 ?_
  refine af (aB (z := .int .u8 0) Tn.u Kr rfl rfl rfl rfl rfl) rfl ?_
  rintro _ w5 ⟨g5, rfl, D5, VS, ex⟩
  replace HB := HB.ext ex
  have R5 : Row w5 w4.heap.size 5 (some ⟨g5, 0, none⟩) 0 0 [] := Row.new D5 VS rfl (by unfold maxLen; omega); have X5 : Ext w4 w5 := ex
  refine au 1 ?_
  refine af (aQ rfl rfl bF R5 HB.2 (by rw [List.length_map, HB.1]) aH Om Om X5.size) rfl ?_
  rintro _ _ ⟨_, c8, rfl, R8, be, _, _⟩
  have X6 := X5.trans be; rw [List.nil_append] at R8; obtain ⟨g8, _, rfl, _⟩ := R8.get (i := 0) Om
  refine au 8 ?_
  refine lk ?_; intro VU Vu
  refine gI ?_
  refine ae (Vu ?_)
  exact Vo _ _ ⟨0, g6, g7, c7, g8, c8, w4, rfl, rfl, Nat.zero_le _, E4, Vl, Vm, X6, R8⟩ Ls
end
section
open Go.RowKit Tryz
attribute [local irreducible] Y Ef WL WC WK WQ WM cx WN WF cT WJ gZ
open Ae
namespace Gm
def pv (a b : Nat) : Array Value := #[.int .u64 (a : Int), .int .u64 (b : Int)]
def pf (xs : Lb) : Nat → Nat
 | 0 => 0
 | i + 1 => if i < 8 then (pf xs i * 256 % 18446744073709551616 ||| cell xs i) else pf xs i
def ps (xs : Lb) : Nat → Nat
 | 0 => 0
 | i + 1 => if i < 8 then ps xs i else (ps xs i * 256 % 18446744073709551616 ||| cell xs i)
theorem xb {a b : Nat} (ha : a < 18446744073709551616) (hb : b < 18446744073709551616) : a ||| b < 18446744073709551616 := Nat.or_lt_two_pow (n := 64) ha hb
theorem EG {a b : Nat} (ha : a < 18446744073709551616) (hb : b < 18446744073709551616) : a ^^^ b < 18446744073709551616 := Nat.xor_lt_two_pow (n := 64) ha hb
theorem oX (xs : Lb) : ∀ i, pf xs i < 18446744073709551616
  | 0 => by rw [pf]; omega
  | i + 1 => by
    have := oX xs i
    rw [pf]; split
    · exact xb (Nat.mod_lt _ Om) (by have := c8 xs i; omega)
    · exact this
theorem pJ (xs : Lb) : ∀ i, ps xs i < 18446744073709551616
  | 0 => by rw [ps]; omega
  | i + 1 => by
    have := pJ xs i
    rw [ps]; split
    · exact this
    · exact xb (Nat.mod_lt _ Om) (by have := c8 xs i; omega)
theorem Hr (a : Nat) : IntKind.u64.wrap ((a : Int) * 2 ^ min (8 : Int).toNat IntKind.u64.bits) = ((a * 256 % 18446744073709551616 : Nat) : Int) := by
 show (((a : Int) * 2 ^ 8) % 18446744073709551616 : Int) = _
 omega
end Gm
open Gm
theorem KG {w : World} {g o n k : Nat} {xs : Lb} (H : Bs w (some ⟨g, o, none⟩) n xs) (h : k < n) : w.cell? ⟨g, o + k, none⟩ = some (.int .u8 ((Ae.cell xs k : Nat) : Int)) := by
 obtain ⟨b', o', e, _, hc⟩ := H.get h
 injection e with e
 injection e with e1 e2 _
 subst e1; subst e2
 rw [hc]; unfold Ae.cell
 rw [List.getD_eq_getElem?_getD, List.getElem?_eq_getElem (by rw [H.1]; exact h)]
 try rfl
 try simp [bv]
theorem iA (a b c d : Nat) (ha : a < 18446744073709551616) (hb : b < 18446744073709551616) (hc : c < 18446744073709551616) (hd : d < 18446744073709551616) (w : World) :
  Ct 177 #[.agg (pv a b), .agg (pv c d)] w fun e w' => e = .returned (.agg (pv (a ^^^ c) (b ^^^ d))) ∧ Ext w w' := by
 have F := aX.refl [] w
 refine aI (s := 2) 16 func177 rfl rfl rfl underlying220 rfl Kr rfl ?_
 intro _ hret
 refine aU ?_
 intro _ _ B2 _ ex
 have Vm := B2.lt
 replace F := F.ext ex
 refine aU ?_
 intro _ _ B3 _ ex
 have Vn := B3.lt
 obtain ⟨F,B2⟩ := aY ex F B2
 refine aU ?_
 intro _ _ B4 Vl ex
 replace F := F.grow ex Vl
 replace B2 := B2.grow ex Vl
 replace B3 := B3.grow ex Vl
 refine au 8 ?_
 refine ak (bJ rfl rfl ((cf ha hc).2.2)) ?_
 refine au 4 ?_
 refine ak (bJ rfl rfl ((cf hb hd).2.2)) ?_
 refine ak (aJ rfl (cells := pv (a ^^^ c) (b ^^^ d)) Kr) ?_
 refine aU ?_
 intro _ D cg
 have ex := aX.one cg
 clear cg
 replace F := F.bT ex
 replace B4 := D; clear D
 replace B4 := B4.congr (cs' := pv (a ^^^ c) (b ^^^ d)) rfl
 refine aU ?_
 refine hret rfl B4 rfl ?_
 exact ⟨rfl, F.drop Om |>.cM (by simp)⟩
theorem iF {A : Oa} {c : Nat} {xs : Lb} (w : World) (HA : Bs w A 16 xs) :
  Ct 175 #[.slice A 16 c] w fun e w' => e = .returned (.agg (pv (pf xs 16) (ps xs 16))) ∧ Ext w w' := by
 have F := aX.refl [] w
 have KA : Kp w.heap.size [] (fun w => Bs w A 16 xs) w := Kp.bs HA (by simp)
 obtain ⟨ga, oa, rfl, _, _⟩ := HA.get (k := 0) Om
 refine aI (s := 2) 31 func175 rfl rfl rfl underlying220 rfl Kr rfl ?_
 intro _ hret
 refine aU ?_
 intro _ Vm B2 Vn ex
 have Vt := ex.size
 replace F := F.grow ex Vn
 replace KA := KA.grow ex Vn
 refine aU ?_
 intro _ Vo B3 Vl ex
 have Vp : Vm < Vo := Nat.lt_of_lt_of_le B2.lt Vl
 replace F := F.grow ex Vl
 replace KA := KA.grow ex Vl
 replace B2 := B2.grow ex Vl
 refine aU ?_
 replace B2 := B2.congr (cs' := pv 0 0) rfl
 replace B3 := B3.congr (cs' := pv 0 0) rfl
 refine aF (fun n' L wr => ∃ (i : Nat), L = [(2, .pointer (some ⟨Vm, 0, none⟩)), (3, .pointer (some ⟨Vo, 0, none⟩)), (6, .slice (some ⟨ga, oa, none⟩) 16 c), (7, .int .i64 16), (8, .int .i64 (i : Int))] ∧ n' = 16 - i ∧ (i ≤ 16 ∧ aX [Vo, Vm] w wr ∧ Kp w.heap.size [Vo, Vm] (fun w => Bs w (some ⟨ga, oa, none⟩) 16 xs) wr ∧ ao wr Vm 220 (pv 0 0) ∧ ao wr Vo 220 (pv (pf xs i) (ps xs i)))) _ _ ⟨0, rfl, rfl, Nat.zero_le _, F, KA, B2, B3⟩ Ls ?_
 rintro _ n' L wr ⟨i, rfl, rfl, _, F, KA, B2, B3⟩ Vq
 refine aU ?_
 refine al rfl (fun Vr => ?_) (fun Vr => ?_)
 ·refine au 7 ?_
  refine ak (aD rfl rfl Tn.u Kr (j := i) Om Om) ?_
  refine ak (ah rfl Tn.u rfl (show _ = some (.int .u8 ((cell xs i : Nat) : Int)) from KG KA.out (k := i) Om)) ?_
  refine aU ?_
  refine al rfl (fun Vs => ?_) (fun Vs => ?_)
  ·refine au 3 ?_
   refine ak (eP rfl rfl Om (Hr _)) ?_
   refine au 1 ?_
   refine ak (bg rfl Tn.u Tn.u (IntWalk.u64_in _ ⟨by omega, by have := c8 xs i; omega⟩)) ?_
   refine ak (jk rfl rfl ((cf (Nat.mod_lt _ Om) (by have := c8 xs i; omega)).2.1)) ?_
   refine aU ?_
   intro _ D cg
   have ex := aX.one cg
   clear cg
   obtain ⟨F,KA,B2⟩ := AN ex F KA B2
   replace B3 := D; clear D
   replace B3 := B3.congr (cs' := pv (pf xs (i + 1)) (ps xs (i + 1))) (by rw [pf, ps, if_pos Om, if_pos Om]; rfl)
   refine au 7 ?_
   refine ae ?_
   refine Vq _ _ ⟨i + 1, rfl, rfl, by omega, F, KA, B2, B3⟩ Om Ls
  ·refine au 3 ?_
   refine ak (eP rfl rfl Om (Hr _)) ?_
   refine au 1 ?_
   refine ak (bg rfl Tn.u Tn.u (IntWalk.u64_in _ ⟨by omega, by have := c8 xs i; omega⟩)) ?_
   refine ak (jk rfl rfl ((cf (Nat.mod_lt _ Om) (by have := c8 xs i; omega)).2.1)) ?_
   refine aU ?_
   intro _ D cg
   have ex := aX.one cg
   clear cg
   obtain ⟨F,KA,B2⟩ := AN ex F KA B2
   replace B3 := D; clear D
   replace B3 := B3.congr (cs' := pv (pf xs (i + 1)) (ps xs (i + 1))) (by rw [pf, ps, if_neg Om, if_neg Om]; rfl)
   refine au 7 ?_
   refine ae ?_
   refine Vq _ _ ⟨i + 1, rfl, rfl, by omega, F, KA, B2, B3⟩ Om Ls
 ·obtain rfl : i = 16 := by omega
  refine aU ?_
  intro _ D cg
  have ex := aX.one cg
  clear cg
  replace F := F.bT ex
  replace B2 := D; clear D
  replace B2 := B2.congr (cs' := pv (pf xs 16) (ps xs 16)) rfl
  refine aU ?_
  refine hret rfl B2 rfl ?_
  exact ⟨rfl, (F.drop Om).drop Om |>.cM (by simp)⟩
end
section
open Go.RowKit Tryz
attribute [local irreducible] Y Ef WL WC WK WQ WM cx WN WF cT WJ gZ
open Ae Gm
namespace Gm
def bit (a b n : Nat) : Nat := if n < 64 then a / 2 ^ (63 - n) % 2 else b / 2 ^ (127 - n) % 2
def qs (c d : Nat) : Nat → Nat × Nat
 | 0 => (c, d)
 | n + 1 => ((qs c d n).1 / 2 ^^^ ((qs c d n).2 % 2 * 225 * 72057594037927936 % 18446744073709551616), (qs c d n).2 / 2 ||| ((qs c d n).1 * 9223372036854775808 % 18446744073709551616))
def os (a b c d : Nat) : Nat → Nat × Nat
 | 0 => (0, 0)
 | n + 1 => if bit a b n = 1 then ((os a b c d n).1 ^^^ (qs c d n).1, (os a b c d n).2 ^^^ (qs c d n).2) else os a b c d n
def mul (a b c d : Nat) : Nat × Nat := os a b c d 128
theorem AJ {c d : Nat} (hc : c < 18446744073709551616) (hd : d < 18446744073709551616) : ∀ n, (qs c d n).1 < 18446744073709551616 ∧ (qs c d n).2 < 18446744073709551616
  | 0 => ⟨hc, hd⟩
  | n + 1 => by
    obtain ⟨h1, h2⟩ := AJ hc hd n
    rw [qs]
    exact ⟨EG Om (Nat.mod_lt _ Om), xb Om (Nat.mod_lt _ Om)⟩
theorem Cg {a b c d : Nat} (hc : c < 18446744073709551616) (hd : d < 18446744073709551616) : ∀ n, (os a b c d n).1 < 18446744073709551616 ∧ (os a b c d n).2 < 18446744073709551616
  | 0 => by rw [os]; exact ⟨by show 0 < _; omega, by show 0 < _; omega⟩
  | n + 1 => by
    obtain ⟨h1, h2⟩ := AJ hc hd n
    obtain ⟨h3, h4⟩ := Cg (a := a) (b := b) hc hd n
    rw [os]; split
    · exact ⟨EG h3 h1, EG h4 h2⟩
    · exact ⟨h3, h4⟩
theorem GF (a k : Nat) {z : Int} (hz : z = (k : Int)) (hk : k ≤ 63) : ((a : Nat) : Int) / 2 ^ min z.toNat IntKind.u64.bits = ((a / 2 ^ k : Nat) : Int) := by
 subst hz
 rw [Int.toNat_natCast, show IntKind.u64.bits = 64 from rfl, Nat.min_eq_left Om]
 simp
theorem rv (x : Nat) (hx : x < 18446744073709551616) : bits .and .u64 ((x : Nat) : Int) 1 = ((x % 2 : Nat) : Int) := by
 have := (cf (p := x) (q := 1) hx Om).1
 rw [Nat.and_one_is_mod] at this; exact this
theorem sS (a : Nat) : IntKind.u64.wrap ((a : Int) * 2 ^ min (63 : Int).toNat IntKind.u64.bits) = ((a * 9223372036854775808 % 18446744073709551616 : Nat) : Int) := by
 show (((a : Int) * 2 ^ 63) % 18446744073709551616 : Int) = _
 omega
theorem sx (a : Nat) : IntKind.u64.wrap ((a : Int) * 2 ^ min (56 : Int).toNat IntKind.u64.bits) = ((a * 72057594037927936 % 18446744073709551616 : Nat) : Int) := by
 show (((a : Int) * 2 ^ 56) % 18446744073709551616 : Int) = _
 omega
theorem nE (a : Nat) : ((a : Nat) : Int) / 2 ^ min (1 : Int).toNat IntKind.u64.bits = ((a / 2 : Nat) : Int) := by
 show ((a : Int) / 2 ^ 1 : Int) = _
 omega
end Gm
theorem kB (a b c d : Nat) (ha : a < 18446744073709551616) (hb : b < 18446744073709551616) (hc : c < 18446744073709551616) (hd : d < 18446744073709551616) (w : World) :
  Ct 178 #[.agg (pv a b), .agg (pv c d)] w fun e w' => e = .returned (.agg (pv (Gm.mul a b c d).1 (Gm.mul a b c d).2)) ∧ Ext w w' := by
 have F := aX.refl [] w
 refine aI (s := 2) 61 func178 rfl rfl rfl underlying220 rfl Kr rfl ?_
 intro _ hret
 refine au 2 ?_
 refine af (nc rfl rfl) rfl ?_
 rintro _ _ ⟨Vy, rfl, B2, _, ex⟩
 have VH := B2.lt; have VI := ex.size
 replace F := F.ext ex
 refine af (nc rfl rfl) rfl ?_
 rintro _ _ ⟨Vt, rfl, B3, Vw, ex⟩
 replace F := F.grow ex Vw
 replace B2 := B2.grow ex Vw
 refine af (dL (Z := #[.int .u64 0, .int .u64 0]) Kr) rfl ?_
 rintro _ _ ⟨Vr, rfl, B4, Vq, ex⟩
 have VC : Vt < Vr := Nat.lt_of_lt_of_le B3.lt Vq
 replace F := F.grow ex Vq
 replace B2 := B2.grow ex Vq
 replace B3 := B3.grow ex Vq
 refine au 2 ?_
 refine eY 0 (fun n' L wr => ∃ (n Vn : Nat), L = [(2, .pointer (some ⟨Vy, 0, none⟩)), (3, .pointer (some ⟨Vt, 0, none⟩)), (4, .pointer (some ⟨Vr, 0, none⟩)), (5, .pointer (some ⟨Vn, 0, none⟩)), (6, .int .i64 (n : Int))] ∧ n' = 127 - n ∧ (n ≤ 127 ∧ Vy < Vt ∧ Vt < Vr ∧ Vr < Vn ∧ w.heap.size ≤ Vy ∧ aX [Vn, Vr, Vt] w wr ∧ ao wr Vy 220 (pv a b) ∧ ao wr Vt 220 (pv (qs c d n).1 (qs c d n).2) ∧ ao wr Vr 220 (pv 0 0) ∧ ao wr Vn 220 (pv (os a b c d n).1 (os a b c d n).2))) rfl ?_ ?_
 ·rintro G n' L wr ⟨n, Vn, rfl, rfl, _, Vz, n34, n45, VA, F, B2, B3, B4, B5⟩ Vu
  obtain ⟨VD, Vv⟩ := AJ hc hd n
  obtain ⟨VE, VF⟩ := Cg (a := a) (b := b) hc hd n
  refine au 4 ?_
  refine bH (dU rfl rfl) rfl (fun a1 => ?_) (fun a1 => ?_)
  ·refine au 1 ?_
   refine kH 10 (eJ 0 1 0 0 Tn.u) ?_
   refine kH 10 (ah rfl Tn.u rfl (B2.get (i := 0) rfl)) ?_
   refine au 1 ?_
   refine kH 10 (eK rfl rfl (br Om Om)) ?_
   refine kH 10 (bY rfl rfl Om (GF a (63 - n) Om Om)) ?_
   refine kH 10 (cD rfl rfl (rv _ (Nat.lt_of_le_of_lt (Nat.div_le_self _ _) ha))) ?_
   refine aG 10 rfl rfl (cA rfl rfl) rfl (fun b1 => ?_) (fun b1 => ?_)
   ·refine au 5 ?_
    refine ck 22 rfl rfl rfl ?_
    refine ck 22 rfl rfl rfl ?_
    refine ck 22 rfl rfl rfl ?_
    refine ck 22 rfl rfl rfl ?_
    refine ck 22 rfl rfl rfl ?_
    refine ck 22 rfl rfl rfl ?_
    refine ck 22 rfl rfl rfl ?_
    refine au 4 ?_
    refine bP rfl rfl ?_
    refine au 1 ?_
    refine ak (aV rfl Tn.u rfl Kr B5) ?_
    refine ak (aV rfl Tn.u rfl Kr B3) ?_
    refine aL func177 rfl (iA _ _ _ _ VE VF VD Vv _) ?_
    rintro e w4 ⟨rfl, ex⟩
    obtain ⟨F,B2,B3,B4,B5⟩ := gQ ex F B2 B3 B4 B5
    refine au 1 ?_
    refine af (bA (o := 0) rfl rfl Kr B5 Nb (bf rfl)) rfl ?_
    rintro _ Vx ⟨rfl, D, cg⟩
    have ex := aX.one cg
    clear cg
    obtain ⟨F,B2,B3,B4⟩ := kA ex F B2 B3 B4
    replace B5 := D; clear D
    replace B5 := B5.congr (cs' := pv ((os a b c d n).1 ^^^ (qs c d n).1) ((os a b c d n).2 ^^^ (qs c d n).2)) rfl
    have hbit : bit a b n = 1 := by unfold bit; rw [if_pos Om]; omega
    replace B5 := B5.congr (cs' := pv (os a b c d (n + 1)).1 (os a b c d (n + 1)).2) (by rw [os, if_pos hbit])
    refine au 4 ?_
    refine ak (eJ 1 1 0 1 Tn.u) ?_
    refine ak (ah rfl Tn.u rfl (B3.get (i := 1) rfl)) ?_
    refine ak (cD rfl rfl (rv _ Vv)) ?_
    refine au 5 ?_
    refine ak (eJ 0 1 0 0 Tn.u) ?_
    refine ak (ah rfl Tn.u rfl (B3.get (i := 0) rfl)) ?_
    refine ak (bY rfl rfl Om (nE _)) ?_
    refine ak (eJ 1 1 0 1 Tn.u) ?_
    refine ak (ah rfl Tn.u rfl (B3.get (i := 1) rfl)) ?_
    refine ak (bY rfl rfl Om (nE _)) ?_
    refine ak (eJ 0 1 0 0 Tn.u) ?_
    refine ak (ah rfl Tn.u rfl (B3.get (i := 0) rfl)) ?_
    refine ak (eP rfl rfl Om (sS _)) ?_
    refine ak (jk rfl rfl ((cf Om (Nat.mod_lt _ Om)).2.1)) ?_
    refine ak (aJ rfl (cells := pv ((qs c d n).1 / 2) ((qs c d n).2 / 2 ||| ((qs c d n).1 * 9223372036854775808 % 18446744073709551616))) Kr) ?_
    refine af (bA (o := 0) rfl rfl Kr B3 Nb (bf rfl)) rfl ?_
    rintro _ Vl ⟨rfl, D, cg⟩
    have ex := aX.one cg
    clear cg
    obtain ⟨F,B2,B4,B5⟩ := kA ex F B2 B4 B5
    replace B3 := D; clear D
    replace B3 := B3.congr (cs' := pv ((qs c d n).1 / 2) ((qs c d n).2 / 2 ||| ((qs c d n).1 * 9223372036854775808 % 18446744073709551616))) rfl
    refine au 4 ?_
    refine ak (eJ 0 1 0 0 Tn.u) ?_
    refine ak (ah rfl Tn.u rfl (B3.get (i := 0) rfl)) ?_
    refine au 1 ?_
    refine ak (cz rfl rfl (show _ = (((qs c d n).2 % 2 * 225 : Nat) : Int) from IntWalk.u64_in _ ⟨by omega, by omega⟩)) ?_
    refine ak (eP rfl rfl Om (sx _)) ?_
    refine ak (bJ rfl rfl ((cf Om (Nat.mod_lt _ Om)).2.2)) ?_
    refine ak (eJ 0 1 0 0 Tn.u) ?_
    refine af (az (i := 0) rfl rfl rfl Kr B3 Nb) rfl ?_
    rintro _ Vo ⟨rfl, D, cg⟩
    have ex := aX.one cg
    clear cg
    obtain ⟨F,B2,B4,B5⟩ := kA ex F B2 B4 B5
    replace B3 := D; clear D
    replace B3 := B3.congr (cs' := pv (qs c d (n + 1)).1 (qs c d (n + 1)).2) rfl
    refine au 6 ?_
    refine ak (aN rfl rfl (br Om Om)) ?_
    refine au 6 ?_
    refine ak (dU rfl rfl) ?_
    refine au 2 ?_
    refine al rfl (fun Vs => ?_) (fun Vs => ?_)
    ·refine au 2 ?_
     refine bZ ?_
     refine Vu _ _ ⟨n + 1, Vn, rfl, rfl, by omega, Vz, n34, n45, VA, F, B2, B3, B4, B5⟩ Om Ls
    ·obtain rfl : n = 127 := by omega
     refine au 4 ?_
     refine ak (aV rfl Tn.u rfl Kr B5) ?_
     refine af (bA (o := 0) rfl rfl Kr B4 Nb (bf rfl)) rfl ?_
     rintro _ Vm ⟨rfl, D, cg⟩
     have ex := aX.one cg
     clear cg
     replace F := F.bT ex
     replace B4 := D; clear D
     replace B4 := B4.congr (cs' := pv (os a b c d 128).1 (os a b c d 128).2) rfl
     refine au 3 ?_
     refine cC ?_
     refine hret rfl B4 rfl ?_
     exact ⟨rfl, ((F.drop Om).drop Om).drop Om |>.cM (by simp)⟩
   ·refine au 3 ?_
    refine kH 19 (Y.as (qu rfl rfl) (congrArg Value.bool (decide_eq_false Om))) ?_
    refine au 12 ?_
    refine cm rfl rfl ?_
    have hbit : ¬ bit a b n = 1 := by unfold bit; rw [if_pos Om]; omega
    replace B5 := B5.congr (cs' := pv (os a b c d (n + 1)).1 (os a b c d (n + 1)).2) (by rw [os, if_neg hbit])
    refine au 4 ?_
    refine ak (eJ 1 1 0 1 Tn.u) ?_
    refine ak (ah rfl Tn.u rfl (B3.get (i := 1) rfl)) ?_
    refine ak (cD rfl rfl (rv _ Vv)) ?_
    refine au 5 ?_
    refine ak (eJ 0 1 0 0 Tn.u) ?_
    refine ak (ah rfl Tn.u rfl (B3.get (i := 0) rfl)) ?_
    refine ak (bY rfl rfl Om (nE _)) ?_
    refine ak (eJ 1 1 0 1 Tn.u) ?_
    refine ak (ah rfl Tn.u rfl (B3.get (i := 1) rfl)) ?_
    refine ak (bY rfl rfl Om (nE _)) ?_
    refine ak (eJ 0 1 0 0 Tn.u) ?_
    refine ak (ah rfl Tn.u rfl (B3.get (i := 0) rfl)) ?_
    refine ak (eP rfl rfl Om (sS _)) ?_
    refine ak (jk rfl rfl ((cf Om (Nat.mod_lt _ Om)).2.1)) ?_
    refine ak (aJ rfl (cells := pv ((qs c d n).1 / 2) ((qs c d n).2 / 2 ||| ((qs c d n).1 * 9223372036854775808 % 18446744073709551616))) Kr) ?_
    refine af (bA (o := 0) rfl rfl Kr B3 Nb (bf rfl)) rfl ?_
    rintro _ Vl ⟨rfl, D, cg⟩
    have ex := aX.one cg
    clear cg
    obtain ⟨F,B2,B4,B5⟩ := kA ex F B2 B4 B5
    replace B3 := D; clear D
    replace B3 := B3.congr (cs' := pv ((qs c d n).1 / 2) ((qs c d n).2 / 2 ||| ((qs c d n).1 * 9223372036854775808 % 18446744073709551616))) rfl
    refine au 4 ?_
    refine ak (eJ 0 1 0 0 Tn.u) ?_
    refine ak (ah rfl Tn.u rfl (B3.get (i := 0) rfl)) ?_
    refine au 1 ?_
    refine ak (cz rfl rfl (show _ = (((qs c d n).2 % 2 * 225 : Nat) : Int) from IntWalk.u64_in _ ⟨by omega, by omega⟩)) ?_
    refine ak (eP rfl rfl Om (sx _)) ?_
    refine ak (bJ rfl rfl ((cf Om (Nat.mod_lt _ Om)).2.2)) ?_
    refine ak (eJ 0 1 0 0 Tn.u) ?_
    refine af (az (i := 0) rfl rfl rfl Kr B3 Nb) rfl ?_
    rintro _ Vo ⟨rfl, D, cg⟩
    have ex := aX.one cg
    clear cg
    obtain ⟨F,B2,B4,B5⟩ := kA ex F B2 B4 B5
    replace B3 := D; clear D
    replace B3 := B3.congr (cs' := pv (qs c d (n + 1)).1 (qs c d (n + 1)).2) rfl
    refine au 6 ?_
    refine ak (aN rfl rfl (br Om Om)) ?_
    refine au 6 ?_
    refine ak (dU rfl rfl) ?_
    refine au 2 ?_
    refine al rfl (fun Vs => ?_) (fun Vs => ?_)
    ·refine au 2 ?_
     refine bZ ?_
     refine Vu _ _ ⟨n + 1, Vn, rfl, rfl, by omega, Vz, n34, n45, VA, F, B2, B3, B4, B5⟩ Om Ls
    ·obtain rfl : n = 127 := by omega
     refine au 4 ?_
     refine ak (aV rfl Tn.u rfl Kr B5) ?_
     refine af (bA (o := 0) rfl rfl Kr B4 Nb (bf rfl)) rfl ?_
     rintro _ Vm ⟨rfl, D, cg⟩
     have ex := aX.one cg
     clear cg
     replace F := F.bT ex
     replace B4 := D; clear D
     replace B4 := B4.congr (cs' := pv (os a b c d 128).1 (os a b c d 128).2) rfl
     refine au 3 ?_
     refine cC ?_
     refine hret rfl B4 rfl ?_
     exact ⟨rfl, ((F.drop Om).drop Om).drop Om |>.cM (by simp)⟩
  ·refine au 11 ?_
   refine kH 19 (Y.as (qu rfl rfl) (congrArg Value.bool (decide_eq_true Om))) ?_
   refine au 1 ?_
   refine kH 22 (eJ 1 1 0 1 Tn.u) ?_
   refine kH 22 (ah rfl Tn.u rfl (B2.get (i := 1) rfl)) ?_
   refine au 1 ?_
   refine kH 22 (eK rfl rfl (br Om Om)) ?_
   refine kH 22 (bY rfl rfl Om (GF b (127 - n) Om Om)) ?_
   refine kH 22 (cD rfl rfl (rv _ (Nat.lt_of_le_of_lt (Nat.div_le_self _ _) hb))) ?_
   refine aG 22 rfl rfl (cA rfl rfl) rfl (fun b2 => ?_) (fun b2 => ?_)
   ·refine au 4 ?_
    refine bP rfl rfl ?_
    refine au 1 ?_
    refine ak (aV rfl Tn.u rfl Kr B5) ?_
    refine ak (aV rfl Tn.u rfl Kr B3) ?_
    refine aL func177 rfl (iA _ _ _ _ VE VF VD Vv _) ?_
    rintro e w4 ⟨rfl, ex⟩
    obtain ⟨F,B2,B3,B4,B5⟩ := gQ ex F B2 B3 B4 B5
    refine au 1 ?_
    refine af (bA (o := 0) rfl rfl Kr B5 Nb (bf rfl)) rfl ?_
    rintro _ Vx ⟨rfl, D, cg⟩
    have ex := aX.one cg
    clear cg
    obtain ⟨F,B2,B3,B4⟩ := kA ex F B2 B3 B4
    replace B5 := D; clear D
    replace B5 := B5.congr (cs' := pv ((os a b c d n).1 ^^^ (qs c d n).1) ((os a b c d n).2 ^^^ (qs c d n).2)) rfl
    have hbit : bit a b n = 1 := by unfold bit; rw [if_neg Om]; omega
    replace B5 := B5.congr (cs' := pv (os a b c d (n + 1)).1 (os a b c d (n + 1)).2) (by rw [os, if_pos hbit])
    refine au 4 ?_
    refine ak (eJ 1 1 0 1 Tn.u) ?_
    refine ak (ah rfl Tn.u rfl (B3.get (i := 1) rfl)) ?_
    refine ak (cD rfl rfl (rv _ Vv)) ?_
    refine au 5 ?_
    refine ak (eJ 0 1 0 0 Tn.u) ?_
    refine ak (ah rfl Tn.u rfl (B3.get (i := 0) rfl)) ?_
    refine ak (bY rfl rfl Om (nE _)) ?_
    refine ak (eJ 1 1 0 1 Tn.u) ?_
    refine ak (ah rfl Tn.u rfl (B3.get (i := 1) rfl)) ?_
    refine ak (bY rfl rfl Om (nE _)) ?_
    refine ak (eJ 0 1 0 0 Tn.u) ?_
    refine ak (ah rfl Tn.u rfl (B3.get (i := 0) rfl)) ?_
    refine ak (eP rfl rfl Om (sS _)) ?_
    refine ak (jk rfl rfl ((cf Om (Nat.mod_lt _ Om)).2.1)) ?_
    refine ak (aJ rfl (cells := pv ((qs c d n).1 / 2) ((qs c d n).2 / 2 ||| ((qs c d n).1 * 9223372036854775808 % 18446744073709551616))) Kr) ?_
    refine af (bA (o := 0) rfl rfl Kr B3 Nb (bf rfl)) rfl ?_
    rintro _ Vl ⟨rfl, D, cg⟩
    have ex := aX.one cg
    clear cg
    obtain ⟨F,B2,B4,B5⟩ := kA ex F B2 B4 B5
    replace B3 := D; clear D
    replace B3 := B3.congr (cs' := pv ((qs c d n).1 / 2) ((qs c d n).2 / 2 ||| ((qs c d n).1 * 9223372036854775808 % 18446744073709551616))) rfl
    refine au 4 ?_
    refine ak (eJ 0 1 0 0 Tn.u) ?_
    refine ak (ah rfl Tn.u rfl (B3.get (i := 0) rfl)) ?_
    refine au 1 ?_
    refine ak (cz rfl rfl (show _ = (((qs c d n).2 % 2 * 225 : Nat) : Int) from IntWalk.u64_in _ ⟨by omega, by omega⟩)) ?_
    refine ak (eP rfl rfl Om (sx _)) ?_
    refine ak (bJ rfl rfl ((cf Om (Nat.mod_lt _ Om)).2.2)) ?_
    refine ak (eJ 0 1 0 0 Tn.u) ?_
    refine af (az (i := 0) rfl rfl rfl Kr B3 Nb) rfl ?_
    rintro _ Vo ⟨rfl, D, cg⟩
    have ex := aX.one cg
    clear cg
    obtain ⟨F,B2,B4,B5⟩ := kA ex F B2 B4 B5
    replace B3 := D; clear D
    replace B3 := B3.congr (cs' := pv (qs c d (n + 1)).1 (qs c d (n + 1)).2) rfl
    refine au 6 ?_
    refine ak (aN rfl rfl (br Om Om)) ?_
    refine au 6 ?_
    refine ak (dU rfl rfl) ?_
    refine au 2 ?_
    refine al rfl (fun Vs => ?_) (fun Vs => ?_)
    ·refine au 2 ?_
     refine bZ ?_
     refine Vu _ _ ⟨n + 1, Vn, rfl, rfl, by omega, Vz, n34, n45, VA, F, B2, B3, B4, B5⟩ Om Ls
    ·obtain rfl : n = 127 := by omega
     refine au 4 ?_
     refine ak (aV rfl Tn.u rfl Kr B5) ?_
     refine af (bA (o := 0) rfl rfl Kr B4 Nb (bf rfl)) rfl ?_
     rintro _ Vm ⟨rfl, D, cg⟩
     have ex := aX.one cg
     clear cg
     replace F := F.bT ex
     replace B4 := D; clear D
     replace B4 := B4.congr (cs' := pv (os a b c d 128).1 (os a b c d 128).2) rfl
     refine au 3 ?_
     refine cC ?_
     refine hret rfl B4 rfl ?_
     exact ⟨rfl, ((F.drop Om).drop Om).drop Om |>.cM (by simp)⟩
   ·refine au 4 ?_
    refine cm rfl rfl ?_
    have hbit : ¬ bit a b n = 1 := by unfold bit; rw [if_neg Om]; omega
    replace B5 := B5.congr (cs' := pv (os a b c d (n + 1)).1 (os a b c d (n + 1)).2) (by rw [os, if_neg hbit])
    refine au 4 ?_
    refine ak (eJ 1 1 0 1 Tn.u) ?_
    refine ak (ah rfl Tn.u rfl (B3.get (i := 1) rfl)) ?_
    refine ak (cD rfl rfl (rv _ Vv)) ?_
    refine au 5 ?_
    refine ak (eJ 0 1 0 0 Tn.u) ?_
    refine ak (ah rfl Tn.u rfl (B3.get (i := 0) rfl)) ?_
    refine ak (bY rfl rfl Om (nE _)) ?_
    refine ak (eJ 1 1 0 1 Tn.u) ?_
    refine ak (ah rfl Tn.u rfl (B3.get (i := 1) rfl)) ?_
    refine ak (bY rfl rfl Om (nE _)) ?_
    refine ak (eJ 0 1 0 0 Tn.u) ?_
    refine ak (ah rfl Tn.u rfl (B3.get (i := 0) rfl)) ?_
    refine ak (eP rfl rfl Om (sS _)) ?_
    refine ak (jk rfl rfl ((cf Om (Nat.mod_lt _ Om)).2.1)) ?_
    refine ak (aJ rfl (cells := pv ((qs c d n).1 / 2) ((qs c d n).2 / 2 ||| ((qs c d n).1 * 9223372036854775808 % 18446744073709551616))) Kr) ?_
    refine af (bA (o := 0) rfl rfl Kr B3 Nb (bf rfl)) rfl ?_
    rintro _ Vl ⟨rfl, D, cg⟩
    have ex := aX.one cg
    clear cg
    obtain ⟨F,B2,B4,B5⟩ := kA ex F B2 B4 B5
    replace B3 := D; clear D
    replace B3 := B3.congr (cs' := pv ((qs c d n).1 / 2) ((qs c d n).2 / 2 ||| ((qs c d n).1 * 9223372036854775808 % 18446744073709551616))) rfl
    refine au 4 ?_
    refine ak (eJ 0 1 0 0 Tn.u) ?_
    refine ak (ah rfl Tn.u rfl (B3.get (i := 0) rfl)) ?_
    refine au 1 ?_
    refine ak (cz rfl rfl (show _ = (((qs c d n).2 % 2 * 225 : Nat) : Int) from IntWalk.u64_in _ ⟨by omega, by omega⟩)) ?_
    refine ak (eP rfl rfl Om (sx _)) ?_
    refine ak (bJ rfl rfl ((cf Om (Nat.mod_lt _ Om)).2.2)) ?_
    refine ak (eJ 0 1 0 0 Tn.u) ?_
    refine af (az (i := 0) rfl rfl rfl Kr B3 Nb) rfl ?_
    rintro _ Vo ⟨rfl, D, cg⟩
    have ex := aX.one cg
    clear cg
    obtain ⟨F,B2,B4,B5⟩ := kA ex F B2 B4 B5
    replace B3 := D; clear D
    replace B3 := B3.congr (cs' := pv (qs c d (n + 1)).1 (qs c d (n + 1)).2) rfl
    refine au 6 ?_
    refine ak (aN rfl rfl (br Om Om)) ?_
    refine au 6 ?_
    refine ak (dU rfl rfl) ?_
    refine au 2 ?_
    refine al rfl (fun Vs => ?_) (fun Vs => ?_)
    ·refine au 2 ?_
     refine bZ ?_
     refine Vu _ _ ⟨n + 1, Vn, rfl, rfl, by omega, Vz, n34, n45, VA, F, B2, B3, B4, B5⟩ Om Ls
    ·obtain rfl : n = 127 := by omega
     refine au 4 ?_
     refine ak (aV rfl Tn.u rfl Kr B5) ?_
     refine af (bA (o := 0) rfl rfl Kr B4 Nb (bf rfl)) rfl ?_
     rintro _ Vm ⟨rfl, D, cg⟩
     have ex := aX.one cg
     clear cg
     replace F := F.bT ex
     replace B4 := D; clear D
     replace B4 := B4.congr (cs' := pv (os a b c d 128).1 (os a b c d 128).2) rfl
     refine au 3 ?_
     refine cC ?_
     refine hret rfl B4 rfl ?_
     exact ⟨rfl, ((F.drop Om).drop Om).drop Om |>.cM (by simp)⟩
 ·intro G Vu
  refine au 2 ?_
  refine af (dL (Z := #[.int .u64 0, .int .u64 0]) Kr) rfl ?_
  rintro _ _ ⟨Vn, rfl, B5, Vp, ex⟩
  have VG : Vr < Vn := Nat.lt_of_lt_of_le B4.lt Vp
  replace F := F.grow ex Vp
  replace B2 := B2.grow ex Vp
  replace B3 := B3.grow ex Vp
  replace B4 := B4.grow ex Vp
  refine au 7 ?_
  refine lk ?_; intro VJ VB
  refine gI ?_
  refine ae (VB ?_)
  exact Vu _ _ ⟨0, Vn, rfl, rfl, Nat.zero_le _, Om, Om, Om, Om, F, B2, B3, B4, B5⟩ Ls
end
end Go.Proofs.YtgfafidlkldeaaaGreat
