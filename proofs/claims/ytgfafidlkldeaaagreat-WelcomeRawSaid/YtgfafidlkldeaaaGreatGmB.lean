/- gcm: products of pairs. No conditions: contracts of functions. -/
import Derived.Test.YtgfafidlkldeaaaGreatAeD
import Derived.Test.YtgfafidlkldeaaaGreatAu
set_option linter.unusedVariables false
set_option linter.unusedSimpArgs false
set_option maxHeartbeats 4000000
set_option maxRecDepth 4000
namespace Go.Proofs.YtgfafidlkldeaaaGreat
section
open Go.RowKit Tryz
section
variable {P : Program} {L : List (Nat × Value)} {w : World} {ty t e : TypeId} {x y : Operand}
theorem wW {g base n c d : Nat} {A : Oa} {xs cs : List Value} {dT sT : TypeId} (hx : ev L x = some (.slice (some ⟨g, 0, none⟩) n c)) (hy : ev L y = some (.slice A n d)) (hu : P.underlying dT = some (.slice e)) (hs : (P.info? e).map (·.size) = some 1)
  (hown : Row w base e (some ⟨g, 0, none⟩) n c xs) (hr : At w A cs) (hn : cs.length = n) (h1 : ∀ v ∈ cs, v.oneCell' = true) :
  Ef P L w (.call { callee := .builtin .copy, args := #[x, y], argTypes := #[dT, sT] }) ty fun u w' => u = .int .i64 (cs.length : Int) ∧ Row w' base e (some ⟨g, 0, none⟩) n c cs ∧ lA w g w' := by
 obtain ⟨hl, h⟩ := hown
 rcases h with ⟨h, _⟩ | ⟨g', cap, cur, hv, hb, hg, hc, hm, hz, ht⟩
 ·cases h
 ·injection hv with Vw h2 h3
  injection Vw with Vw
  injection Vw with e1 _ _
  subst e1; subst h3
  refine (fT (cur := cur) (cs := cs) hx hy hu hs hg hr (by rw [hn]; exact (Nat.min_self n).symm) Om h1).mono fun u w' ⟨Vx, hB, hC⟩ => ⟨Vx, ⟨by omega, .inr ⟨g, c, _, rfl, hb, hB, hc, hm, ?_, ?_⟩⟩, hC⟩
  ·simp; omega
  ·simp [hn]
theorem MG {z : Operand} {g n c' j : Nat} {k k2 : IntKind} {a b : Int} {e : TypeId} (hx : ev L x = some (.slice (some ⟨g, 0, none⟩) n c')) (hy : ev L y = some (.int k a)) (hz : ev L z = some (.int k2 b)) (hu : P.underlying t = some (.slice e)) (hs : (P.info? e).map (·.size) = some 1) (ha : a = (j : Int)) (hb : b = ((j + 4 : Nat) : Int)) (hj : j + 4 ≤ c') :
  Y P L w (.slice t x (some y) (some z) none) ty (.slice (some ⟨g, j, none⟩) 4 (c' - j)) := by
 have h := tH (w := w) (ty := ty) (s := 1) hx hy hz hu hs ha hb Om Om
 have e1 : j6 (some ⟨g, 0, none⟩) c' j 1 = some ⟨g, j, none⟩ := by
  unfold j6; rw [if_neg Om]; simp [Addr.add]
  intro h; exact h.symm
 rw [e1, show j + 4 - j = 4 by omega] at h
 exact h
end
attribute [local irreducible] Y Ef WL WC WK WQ WM cE WN WF dc WJ gJ
open Ae
namespace Ae
def DS (s w : Lb) (n : Nat) : Nat → List UInt8
 | 0 => s
 | i + 1 => (DS s w n i).set i (UInt8.ofNat (cell (DS s w n i) i ^^^ cell w (16 * n + i)))
def Nf (T s : Lb) : Nat → List UInt8
 | 0 => List.replicate 16 0
 | i + 1 => (Nf T s i).set i (UInt8.ofNat (cell T (cell s ((i + i % 4 * 4) % 16))))
def Ok (x : Lb) : Nat → List UInt8
 | 0 => x
 | i + 1 => mix (Ok x i) (4 * i)
def J8 (T w b : Lb) : Nat → List UInt8
 | 0 => b
 | n + 1 => Ok (Nf T (DS (J8 T w b n) w n 16) 16) (if n + 1 < 10 then 4 else 0)
def enc (key b : Lb) : List UInt8 := DS (J8 box (keys box key) b 10) (keys box key) 10 16
theorem yR (s w : Lb) (n : Nat) : ∀ i, (DS s w n i).length = s.length
 | 0 => rfl
 | i + 1 => by rw [DS, List.length_set, yR s w n i]
theorem jw (T s : Lb) : ∀ i, (Nf T s i).length = 16
 | 0 => by rw [Nf, List.length_replicate]
 | i + 1 => by rw [Nf, List.length_set, jw T s i]
theorem iw (x : Lb) : ∀ i, (Ok x i).length = x.length
 | 0 => rfl
 | i + 1 => by rw [Ok, yA, iw x i]
theorem MY {T w b : Lb} (h : b.length = 16) : ∀ n, (J8 T w b n).length = 16
 | 0 => h
 | n + 1 => by rw [J8, iw, jw]
end Ae
theorem Pf (m : Nat) : ((m : Nat) : Int).tmod 4 = ((m % 4 : Nat) : Int) := by rw [Int.tmod_eq_emod_of_nonneg Om]; omega
theorem PA (m : Nat) {z : Int} (h : z = (m : Int)) : z.tmod 16 = ((m % 16 : Nat) : Int) := by subst h; exact LI m
theorem rq {A B : Oa} {c d : Nat} {key gX : Lb} (w : World) (HA : Bs w A 16 key) (HB : Bs w B 16 gX) :
  Ct 174 #[.slice A 16 c, .slice B 16 d] w fun e w' => ∃ A' c', e = .returned (.tuple #[.slice A' 16 c', .bool true]) ∧ Row w' w.heap.size 5 A' 16 c' ((enc key gX).map bv) ∧ Ext w w' := by
 have E := Ext.refl w
 have hkl := HA.1
 obtain ⟨T, hT⟩ : ∃ T, T = box := ⟨_, rfl⟩
 have hTl : T.length = 256 := by rw [hT]; exact jD _
 have hEnc : enc key gX = DS (J8 T (keys T key) gX 10) (keys T key) 10 16 := by rw [hT]; rfl
 have VB := xy (T := T) hkl
 obtain ⟨W, hW⟩ : ∃ W, W = keys T key := ⟨_, rfl⟩
 rw [← hW] at hEnc VB
 refine bu 91 func174 rfl rfl rfl rfl ?_
 intro _ hret
 refine au 6 ?_
 refine fu 0 (fun n' L wr => ∃ (n g6 g7 c7 g8 c8 : Nat) (w4 : World), L = [(6, .pointer (some ⟨g6, 0, none⟩)), (7, .slice (some ⟨g7, 0, none⟩) 176 c7), (8, .slice (some ⟨g8, 0, none⟩) 16 c8), (9, .int .i64 (n : Int))] ∧ n' = 10 - n ∧ (n ≤ 10 ∧ Ext w w4 ∧ ao w4 g6 265 (cT T) ∧ Bs w4 (some ⟨g7, 0, none⟩) 176 W ∧ Ext w4 wr ∧ Row wr w4.heap.size 5 (some ⟨g8, 0, none⟩) 16 c8 ((J8 T W gX n).map bv))) rfl ?_ ?_
 ·rintro G n' L wr ⟨n, g6, g7, c7, g8, c8, w4, rfl, rfl, _, E4, Vw, Vx, X, R⟩ Vz
  obtain ⟨S, hS⟩ : ∃ S, S = J8 T W gX n := ⟨_, rfl⟩
  rw [← hS] at R
  refine au 9 ?_
  refine az (fun n' L ws => ∃ (i : Nat), L = [(6, .pointer (some ⟨g6, 0, none⟩)), (7, .slice (some ⟨g7, 0, none⟩) 176 c7), (8, .slice (some ⟨g8, 0, none⟩) 16 c8), (9, .int .i64 (n : Int)), (30, .int .i64 16), (31, .int .i64 (i : Int))] ∧ n' = 16 - i ∧ (i ≤ 16 ∧ Ext w4 ws ∧ Row ws w4.heap.size 5 (some ⟨g8, 0, none⟩) 16 c8 ((DS S W n i).map bv))) _ _ ⟨0, rfl, rfl, Nat.zero_le _, X, R⟩ Ls ?_
  rintro _ n' L ws ⟨i, rfl, rfl, hi, X, R⟩ VH
  refine au 2 ?_
  refine ak (dA rfl rfl) ?_
  refine au 3 ?_
  refine al rfl (fun VI => ?_) (fun VI => ?_)
  ·refine au 10 ?_
   obtain ⟨V, hV⟩ : ∃ V, V = DS S W n i := ⟨_, rfl⟩
   rw [← hV] at R
   have HV := R.bs
   have HWs := Vx.wk X
   refine aC Kr 14 rfl ?_; intro VJ ex VK
   obtain ⟨X,R,HV,HWs⟩ := bO ex X R HV HWs
   refine dk 0 rfl (fun _ => aQ rfl) ?_
   refine dk 1 rfl (fun _ => aQ rfl) ?_
   refine dk 2 rfl (fun _ => aw rfl rfl Tn.u Kr (j := i) Om Om) ?_
   refine my 3 rfl (af rfl Tn.u rfl (jW HV (k := i) Om)) ?_
   refine dk 4 rfl (fun _ => aQ rfl) ?_
   refine dk 5 rfl (fun _ => aQ rfl) ?_
   refine dk 6 rfl (fun _ => cD rfl rfl (bc Om Om)) ?_
   refine dk 7 rfl (fun _ => aQ rfl) ?_
   refine dk 8 rfl (fun _ => aO rfl rfl (bc Om Om)) ?_
   refine dk 9 rfl (fun _ => aw rfl rfl Tn.u Kr (j := 16 * n + i) Om Om) ?_
   refine my 10 rfl (af rfl Tn.u rfl (jW HWs (k := 16 * n + i) Om)) ?_
   refine dk 11 rfl (fun _ => bI rfl rfl ((bE (Ae.c8 _ _) (Ae.c8 _ _)).2.2)) ?_
   refine dk 12 rfl (fun _ => aw rfl rfl Tn.u Kr (j := i) Om Om) ?_
   refine bk 13 Kr ?_; refine bH rfl (lC rfl rfl rfl Kr R Om) rfl ?_
   rintro _ VL ⟨rfl, VM, cg⟩
   refine ⟨.inl rfl, ?_⟩
   have VN := X.aE cg (R.lt).1; have VO : Row VL w4.heap.size 5 (some ⟨g8, 0, none⟩) 16 c8 ((V.set i (UInt8.ofNat (cell V i ^^^ cell W (16 * n + i)))).map bv) := (by rw [List.map_set, bv, fH (x8 (Ae.c8 _ _) (Ae.c8 _ _))]; exact VM)
   refine nC Kr ?_
   refine au 4 ?_
   refine ak (aO rfl rfl (bc Om Om)) ?_
   refine au 2 ?_
   refine ae ?_
   refine VH _ _ ⟨i + 1, rfl, rfl, by omega, VN, (by rw [DS, ← hV]; exact VO)⟩ Om Ls
  ·obtain rfl : i = 16 := by omega
   obtain ⟨V, hV⟩ : ∃ V, V = DS S W n 16 := ⟨_, rfl⟩
   rw [← hV] at R
   refine au 9 ?_
   refine ak (cL rfl rfl) ?_
   refine au 2 ?_
   refine al rfl (fun VP => ?_) (fun VP => ?_)
   ·refine au 9 ?_
    refine bK ?_
    refine hret rfl rfl ?_
    obtain rfl : n = 10 := by omega
    exact ⟨_, c8, rfl, by rw [hEnc, ← hS, ← hV]; exact R.lower E4.size, E4.ext X⟩
   ·refine au 5 ?_
    refine ak (aO rfl rfl (bc Om Om)) ?_
    have X0 := X; have R0 := R
    refine au 5 ?_
    refine ag (du (n := 16) (z := .int .u8 0) (bytes := 1) rfl rfl Tn.u Kr rfl rfl rfl rfl Om Om) rfl ?_
    rintro _ _ ⟨VA, rfl, VQ, Vy, ex⟩
    have VR := ex; have VS := VQ.congr (cs' := cT (List.replicate 16 0)) Kr
    refine au 12 ?_
    refine az (fun n' L wq => ∃ (i : Nat), L = [(6, .pointer (some ⟨g6, 0, none⟩)), (7, .slice (some ⟨g7, 0, none⟩) 176 c7), (8, .slice (some ⟨g8, 0, none⟩) 16 c8), (9, .int .i64 ((n : Int) + 1)), (11, .slice (some ⟨VA, 0, none⟩) 16 16), (55, .int .i64 16), (56, .int .i64 (i : Int))] ∧ n' = 16 - i ∧ (i ≤ 16 ∧ Ext ws wq ∧ ao wq VA 5 (cT (Nf T V i)))) _ _ ⟨0, rfl, rfl, Nat.zero_le _, VR, VS⟩ Ls ?_
    rintro _ n' L wq ⟨i, rfl, rfl, hi, Y, B⟩ VT
    refine au 2 ?_
    refine ak (dA rfl rfl) ?_
    refine au 3 ?_
    refine al rfl (fun VU => ?_) (fun VU => ?_)
    ·have HV := R0.bs.wk Y
     have TQ := (Vw.ext X0).ext Y
     have hxl := jw T V i
     refine au 16 ?_
     refine ak (cK rfl rfl Om (show _ = ((i % 4 : Nat) : Int) from Pf i)) ?_
     refine ak (cD rfl rfl (bc Om Om)) ?_
     refine ak (aO rfl rfl (bc Om Om)) ?_
     refine ak (cK rfl rfl Om (show _ = (((i + i % 4 * 4) % 16 : Nat) : Int) from PA (i + i % 4 * 4) Om)) ?_
     refine ak (aw rfl rfl Tn.u Kr (j := (i + i % 4 * 4) % 16) Om Om) ?_
     refine ak (af rfl Tn.u rfl (jW HV (k := (i + i % 4 * 4) % 16) Om)) ?_
     refine ak (bG rfl rfl Tn.u Kr (j := cell V ((i + i % 4 * 4) % 16)) Om (by have := Ae.c8 V ((i + i % 4 * 4) % 16); omega)) ?_
     refine ak (af rfl Tn.u rfl (wP TQ (k := cell V ((i + i % 4 * 4) % 16)) (by rw [hTl]; exact Ae.c8 _ _))) ?_
     refine ak (aw rfl rfl Tn.u Kr (j := i) Om Om) ?_
     refine ag (av rfl rfl rfl Kr B (by rw [aW, hxl]; omega)) rfl ?_
     rintro _ _ ⟨rfl, VV, cg⟩
     have VW := Y.aE cg Vy; have VG := VV; rw [← fH (Ae.c8 T (cell V ((i + i % 4 * 4) % 16))), fI, Nat.zero_add] at VG
     refine au 4 ?_
     refine ak (aO rfl rfl (bc Om Om)) ?_
     refine au 2 ?_
     refine ae ?_
     refine VT _ _ ⟨i + 1, rfl, rfl, by omega, VW, VG⟩ Om Ls
    ·obtain rfl : i = 16 := by omega
     obtain ⟨x, hx⟩ : ∃ x, x = Nf T V 16 := ⟨_, rfl⟩
     have hxl : x.length = 16 := by rw [hx]; exact jw _ _ _
     rw [← hx] at B
     refine au 12 ?_
     refine az (fun n' L wu => ∃ (k : Nat), L = [(6, .pointer (some ⟨g6, 0, none⟩)), (7, .slice (some ⟨g7, 0, none⟩) 176 c7), (8, .slice (some ⟨g8, 0, none⟩) 16 c8), (9, .int .i64 ((n : Int) + 1)), (11, .slice (some ⟨VA, 0, none⟩) 16 16), (13, .int .i64 ((4 * k : Nat) : Int))] ∧ n' = 4 - k ∧ (k ≤ 4 ∧ (n + 1 < 10 ∨ k = 0) ∧ Ext ws wu ∧ ao wu VA 5 (cT (Ok x k)))) _ _ ⟨0, rfl, rfl, Nat.zero_le _, .inr rfl, Y, B⟩ Ls ?_
     rintro _ n' L wu ⟨k, rfl, rfl, _, _, Y, B⟩ VX
     refine au 4 ?_
     refine aR (dA rfl rfl) rfl (fun a1 => ?_) (fun a1 => ?_)
     ·refine au 2 ?_
      refine aJ 76 rfl rfl (dA rfl rfl) rfl (fun a2 => ?_) (fun a2 => ?_)
      ·refine au 3 ?_
       refine bR rfl rfl ?_
       have hml := iw x k
       refine au 8 ?_
       refine ak (aO rfl rfl (bc Om Om)) ?_
       refine ak (MG (j := 4 * k) rfl rfl rfl Tn.u Kr rfl Om Om) ?_
       refine aB func227 rfl (Kg _ B Om) ?_
       rintro e _ ⟨rfl, VY, ch⟩
       have VZ := Y.KJ ch (by simp; exact Vy)
       refine au 6 ?_
       refine ak (aO rfl rfl (bc Om Om)) ?_
       refine au 2 ?_
       refine ae ?_
       refine VX _ _ ⟨k + 1, rfl, rfl, by omega, Om, VZ, VY⟩ Om Ls
      ·refine au 3 ?_
       refine aX rfl rfl ?_
       have hml := iw x k
       have VC : k = if n + 1 < 10 then 4 else 0 := by split <;> omega
       refine au 9 ?_
       refine ag (wW rfl rfl Tn.u Kr (R0.ext Y) ((bw B Om).2) (by rw [List.length_map]; omega) aM) rfl ?_
       rintro _ V0 ⟨rfl, VD, cg⟩
       have VE := (X0.ext Y).aE cg (R0.lt).1
       refine au 3 ?_
       refine bV ?_
       refine Vz _ _ ⟨n + 1, g6, g7, c7, g8, c8, w4, rfl, rfl, by omega, E4, Vw, Vx, VE, (by rw [J8, ← hS, ← hV, ← hx, ← VC]; exact VD)⟩ Om Ls
     ·refine au 6 ?_
      refine aX rfl rfl ?_
      have hml := iw x k
      have VC : k = if n + 1 < 10 then 4 else 0 := by split <;> omega
      refine au 9 ?_
      refine ag (wW rfl rfl Tn.u Kr (R0.ext Y) ((bw B Om).2) (by rw [List.length_map]; omega) aM) rfl ?_
      rintro _ V0 ⟨rfl, VD, cg⟩
      have VE := (X0.ext Y).aE cg (R0.lt).1
      refine au 3 ?_
      refine bV ?_
      refine Vz _ _ ⟨n + 1, g6, g7, c7, g8, c8, w4, rfl, rfl, by omega, E4, Vw, Vx, VE, (by rw [J8, ← hS, ← hV, ← hx, ← VC]; exact VD)⟩ Om Ls
 ·intro G Vz
  have V4 := HA; have V5 := HB
  refine au 5 ?_
  refine ak (Y.as (iY rfl rfl) (congrArg Value.bool (decide_eq_false Om))) ?_
  refine au 3 ?_
  refine gE 17 (Y.as (iY rfl rfl) (congrArg Value.bool (decide_eq_false Om))) ?_
  refine au 3 ?_
  refine aX rfl rfl ?_
  refine au 4 ?_
  refine aB func225 rfl (BC _) ?_
  rintro e _ ⟨rfl, ex⟩
  refine au 1 ?_
  obtain ⟨HA,HB,E⟩ := bC ex HA HB E
  rw [← hT]; have V7 := E.size
  refine ag (cw (Z := (List.replicate 256 (.int .u8 0)).toArray) Kr) rfl ?_
  rintro _ _ ⟨g6, rfl, D6, _, ex⟩
  obtain ⟨HA,HB,E⟩ := bC ex HA HB E
  refine ag (ah rfl rfl (by rw [aW, hTl]; kernel_rfl) D6 (by rw [aW, hTl, List.size_toArray, List.length_replicate]) (lx _)) rfl ?_
  rintro _ _ ⟨rfl, T6, cg⟩
  replace E := E.aE cg Om; replace HA := V4.wk E; replace HB := V5.wk E
  refine au 5 ?_
  refine ak (aY rfl Tn.u rfl (by rw [aW, hTl]; kernel_rfl) T6) ?_
  refine aB func226 rfl (vU _ HA hTl) ?_
  rintro e w4 ⟨_, c7, rfl, R7, ex⟩
  refine au 1 ?_
  obtain ⟨HB,E,T6⟩ := bC ex HB E T6
  rw [← hW] at R7; obtain ⟨g7, _, rfl, _⟩ := R7.get (i := 0) Om; have Vx := R7.bs; have Vw := T6; have E4 := E
  refine au 5 ?_
  refine ag (aK (z := .int .u8 0) Tn.u Kr rfl rfl rfl rfl rfl) rfl ?_
  rintro _ w5 ⟨g5, rfl, D5, V6, ex⟩
  replace HB := HB.ext ex
  have R5 : Row w5 w4.heap.size 5 (some ⟨g5, 0, none⟩) 0 0 [] := Row.new D5 V6 rfl (by unfold maxLen; omega); have X5 : Ext w4 w5 := ex
  refine au 1 ?_
  refine ag (bd rfl rfl cB R5 HB.2 (by rw [List.length_map, HB.1]) aM Om Om X5.size) rfl ?_
  rintro _ _ ⟨_, c8, rfl, R8, be, _, _⟩
  have X6 := X5.trans be; rw [List.nil_append] at R8; obtain ⟨g8, _, rfl, _⟩ := R8.get (i := 0) Om
  refine au 8 ?_
  refine dE ?_; intro V8 VF
  refine gn ?_
  refine ae (VF ?_)
  exact Vz _ _ ⟨0, g6, g7, c7, g8, c8, w4, rfl, rfl, Nat.zero_le _, E4, Vw, Vx, X6, R8⟩ Ls
end
section
open Go.RowKit Tryz
attribute [local irreducible] Y Ef WL WC WK WQ WM cE WN WF dc WJ gJ
open Ae
namespace Gm
def pv (a b : Nat) : Array Value := #[.int .u64 (a : Int), .int .u64 (b : Int)]
def pf (xs : Lb) : Nat → Nat
 | 0 => 0
 | i + 1 => if i < 8 then (pf xs i * 256 % 18446744073709551616 ||| cell xs i) else pf xs i
def ps (xs : Lb) : Nat → Nat
 | 0 => 0
 | i + 1 => if i < 8 then ps xs i else (ps xs i * 256 % 18446744073709551616 ||| cell xs i)
theorem zN {a b : Nat} (ha : a < 18446744073709551616) (hb : b < 18446744073709551616) : a ||| b < 18446744073709551616 := Nat.or_lt_two_pow (n := 64) ha hb
theorem JL {a b : Nat} (ha : a < 18446744073709551616) (hb : b < 18446744073709551616) : a ^^^ b < 18446744073709551616 := Nat.xor_lt_two_pow (n := 64) ha hb
theorem qK (xs : Lb) : ∀ i, pf xs i < 18446744073709551616
  | 0 => by rw [pf]; omega
  | i + 1 => by
    have := qK xs i
    rw [pf]; split
    · exact zN (Nat.mod_lt _ Om) (by have := c8 xs i; omega)
    · exact this
theorem qh (xs : Lb) : ∀ i, ps xs i < 18446744073709551616
  | 0 => by rw [ps]; omega
  | i + 1 => by
    have := qh xs i
    rw [ps]; split
    · exact this
    · exact zN (Nat.mod_lt _ Om) (by have := c8 xs i; omega)
theorem Lr (a : Nat) : IntKind.u64.wrap ((a : Int) * 2 ^ min (8 : Int).toNat IntKind.u64.bits) = ((a * 256 % 18446744073709551616 : Nat) : Int) := by
 show (((a : Int) * 2 ^ 8) % 18446744073709551616 : Int) = _
 omega
end Gm
open Gm
theorem Gx {w : World} {g o n k : Nat} {xs : Lb} (H : Bs w (some ⟨g, o, none⟩) n xs) (h : k < n) : w.cell? ⟨g, o + k, none⟩ = some (.int .u8 ((Ae.cell xs k : Nat) : Int)) := by
 obtain ⟨b', o', e, _, hc⟩ := H.get h
 injection e with e
 injection e with e1 e2 _
 subst e1; subst e2
 rw [hc]; unfold Ae.cell
 rw [List.getD_eq_getElem?_getD, List.getElem?_eq_getElem (by rw [H.1]; exact h)]
 try rfl
 try simp [bv]
theorem jh (a b c d : Nat) (ha : a < 18446744073709551616) (hb : b < 18446744073709551616) (hc : c < 18446744073709551616) (hd : d < 18446744073709551616) (w : World) :
  Ct 177 #[.agg (pv a b), .agg (pv c d)] w fun e w' => e = .returned (.agg (pv (a ^^^ c) (b ^^^ d))) ∧ Ext w w' := by
 have F := aA.refl [] w
 refine aH (s := 2) 16 func177 rfl rfl rfl underlying220 rfl Kr rfl ?_
 intro _ hret
 refine aU ?_
 intro _ _ B2 _ ex
 have Vx := B2.lt
 replace F := F.ext ex
 refine aU ?_
 intro _ _ B3 _ ex
 have Vy := B3.lt
 obtain ⟨F,B2⟩ := ba ex F B2
 refine aU ?_
 intro _ _ B4 Vw ex
 replace F := F.grow ex Vw
 replace B2 := B2.grow ex Vw
 replace B3 := B3.grow ex Vw
 refine au 8 ?_
 refine ak (bI rfl rfl ((cu ha hc).2.2)) ?_
 refine au 4 ?_
 refine ak (bI rfl rfl ((cu hb hd).2.2)) ?_
 refine ak (aq rfl (cells := pv (a ^^^ c) (b ^^^ d)) Kr) ?_
 refine aU ?_
 intro _ D cg
 have ex := aA.one cg
 clear cg
 replace F := F.bo ex
 replace B4 := D; clear D
 replace B4 := B4.congr (cs' := pv (a ^^^ c) (b ^^^ d)) rfl
 refine aU ?_
 refine hret rfl B4 rfl ?_
 exact ⟨rfl, F.drop Om |>.aD (by simp)⟩
theorem jy {A : Oa} {c : Nat} {xs : Lb} (w : World) (HA : Bs w A 16 xs) :
  Ct 175 #[.slice A 16 c] w fun e w' => e = .returned (.agg (pv (pf xs 16) (ps xs 16))) ∧ Ext w w' := by
 have F := aA.refl [] w
 have KA : Kp w.heap.size [] (fun w => Bs w A 16 xs) w := Kp.bs HA (by simp)
 obtain ⟨ga, oa, rfl, _, _⟩ := HA.get (k := 0) Om
 refine aH (s := 2) 31 func175 rfl rfl rfl underlying220 rfl Kr rfl ?_
 intro _ hret
 refine aU ?_
 intro _ Vx B2 Vy ex
 have VE := ex.size
 replace F := F.grow ex Vy
 replace KA := KA.grow ex Vy
 refine aU ?_
 intro _ Vz B3 Vw ex
 have VA : Vx < Vz := Nat.lt_of_lt_of_le B2.lt Vw
 replace F := F.grow ex Vw
 replace KA := KA.grow ex Vw
 replace B2 := B2.grow ex Vw
 refine aU ?_
 replace B2 := B2.congr (cs' := pv 0 0) rfl
 replace B3 := B3.congr (cs' := pv 0 0) rfl
 refine az (fun n' L wr => ∃ (i : Nat), L = [(2, .pointer (some ⟨Vx, 0, none⟩)), (3, .pointer (some ⟨Vz, 0, none⟩)), (6, .slice (some ⟨ga, oa, none⟩) 16 c), (7, .int .i64 16), (8, .int .i64 (i : Int))] ∧ n' = 16 - i ∧ (i ≤ 16 ∧ aA [Vz, Vx] w wr ∧ Kp w.heap.size [Vz, Vx] (fun w => Bs w (some ⟨ga, oa, none⟩) 16 xs) wr ∧ ao wr Vx 220 (pv 0 0) ∧ ao wr Vz 220 (pv (pf xs i) (ps xs i)))) _ _ ⟨0, rfl, rfl, Nat.zero_le _, F, KA, B2, B3⟩ Ls ?_
 rintro _ n' L wr ⟨i, rfl, rfl, _, F, KA, B2, B3⟩ VB
 refine aU ?_
 refine al rfl (fun VC => ?_) (fun VC => ?_)
 ·refine au 7 ?_
  refine ak (aw rfl rfl Tn.u Kr (j := i) Om Om) ?_
  refine ak (af rfl Tn.u rfl (show _ = some (.int .u8 ((cell xs i : Nat) : Int)) from Gx KA.out (k := i) Om)) ?_
  refine aU ?_
  refine al rfl (fun VD => ?_) (fun VD => ?_)
  ·refine au 3 ?_
   refine ak (fk rfl rfl Om (Lr _)) ?_
   refine au 1 ?_
   refine ak (bg rfl Tn.u Tn.u (IntWalk.u64_in _ ⟨by omega, by have := c8 xs i; omega⟩)) ?_
   refine ak (iH rfl rfl ((cu (Nat.mod_lt _ Om) (by have := c8 xs i; omega)).2.1)) ?_
   refine aU ?_
   intro _ D cg
   have ex := aA.one cg
   clear cg
   obtain ⟨F,KA,B2⟩ := mv ex F KA B2
   replace B3 := D; clear D
   replace B3 := B3.congr (cs' := pv (pf xs (i + 1)) (ps xs (i + 1))) (by rw [pf, ps, if_pos Om, if_pos Om]; rfl)
   refine au 7 ?_
   refine ae ?_
   refine VB _ _ ⟨i + 1, rfl, rfl, by omega, F, KA, B2, B3⟩ Om Ls
  ·refine au 3 ?_
   refine ak (fk rfl rfl Om (Lr _)) ?_
   refine au 1 ?_
   refine ak (bg rfl Tn.u Tn.u (IntWalk.u64_in _ ⟨by omega, by have := c8 xs i; omega⟩)) ?_
   refine ak (iH rfl rfl ((cu (Nat.mod_lt _ Om) (by have := c8 xs i; omega)).2.1)) ?_
   refine aU ?_
   intro _ D cg
   have ex := aA.one cg
   clear cg
   obtain ⟨F,KA,B2⟩ := mv ex F KA B2
   replace B3 := D; clear D
   replace B3 := B3.congr (cs' := pv (pf xs (i + 1)) (ps xs (i + 1))) (by rw [pf, ps, if_neg Om, if_neg Om]; rfl)
   refine au 7 ?_
   refine ae ?_
   refine VB _ _ ⟨i + 1, rfl, rfl, by omega, F, KA, B2, B3⟩ Om Ls
 ·obtain rfl : i = 16 := by omega
  refine aU ?_
  intro _ D cg
  have ex := aA.one cg
  clear cg
  replace F := F.bo ex
  replace B2 := D; clear D
  replace B2 := B2.congr (cs' := pv (pf xs 16) (ps xs 16)) rfl
  refine aU ?_
  refine hret rfl B2 rfl ?_
  exact ⟨rfl, (F.drop Om).drop Om |>.aD (by simp)⟩
end
section
open Go.RowKit Tryz
attribute [local irreducible] Y Ef WL WC WK WQ WM cE WN WF dc WJ gJ
open Ae Gm
namespace Gm
def bit (a b n : Nat) : Nat := if n < 64 then a / 2 ^ (63 - n) % 2 else b / 2 ^ (127 - n) % 2
def qs (c d : Nat) : Nat → Nat × Nat
 | 0 => (c, d)
 | n + 1 => ((qs c d n).1 / 2 ^^^ ((qs c d n).2 % 2 * 225 * 72057594037927936 % 18446744073709551616), (qs c d n).2 / 2 ||| ((qs c d n).1 * 9223372036854775808 % 18446744073709551616))
def os (a b c d : Nat) : Nat → Nat × Nat
 | 0 => (0, 0)
 | n + 1 => if bit a b n = 1 then ((os a b c d n).1 ^^^ (qs c d n).1, (os a b c d n).2 ^^^ (qs c d n).2) else os a b c d n
def mul (a b c d : Nat) : Nat × Nat := os a b c d 128
theorem Er {c d : Nat} (hc : c < 18446744073709551616) (hd : d < 18446744073709551616) : ∀ n, (qs c d n).1 < 18446744073709551616 ∧ (qs c d n).2 < 18446744073709551616
  | 0 => ⟨hc, hd⟩
  | n + 1 => by
    obtain ⟨h1, h2⟩ := Er hc hd n
    rw [qs]
    exact ⟨JL Om (Nat.mod_lt _ Om), zN Om (Nat.mod_lt _ Om)⟩
theorem Fy {a b c d : Nat} (hc : c < 18446744073709551616) (hd : d < 18446744073709551616) : ∀ n, (os a b c d n).1 < 18446744073709551616 ∧ (os a b c d n).2 < 18446744073709551616
  | 0 => by rw [os]; exact ⟨by show 0 < _; omega, by show 0 < _; omega⟩
  | n + 1 => by
    obtain ⟨h1, h2⟩ := Er hc hd n
    obtain ⟨h3, h4⟩ := Fy (a := a) (b := b) hc hd n
    rw [os]; split
    · exact ⟨JL h3 h1, JL h4 h2⟩
    · exact ⟨h3, h4⟩
theorem Jk (a k : Nat) {z : Int} (hz : z = (k : Int)) (hk : k ≤ 63) : ((a : Nat) : Int) / 2 ^ min z.toNat IntKind.u64.bits = ((a / 2 ^ k : Nat) : Int) := by
 subst hz
 rw [Int.toNat_natCast, show IntKind.u64.bits = 64 from rfl, Nat.min_eq_left Om]
 simp
theorem sE (x : Nat) (hx : x < 18446744073709551616) : bits .and .u64 ((x : Nat) : Int) 1 = ((x % 2 : Nat) : Int) := by
 have := (cu (p := x) (q := 1) hx Om).1
 rw [Nat.and_one_is_mod] at this; exact this
theorem uF (a : Nat) : IntKind.u64.wrap ((a : Int) * 2 ^ min (63 : Int).toNat IntKind.u64.bits) = ((a * 9223372036854775808 % 18446744073709551616 : Nat) : Int) := by
 show (((a : Int) * 2 ^ 63) % 18446744073709551616 : Int) = _
 omega
theorem tU (a : Nat) : IntKind.u64.wrap ((a : Int) * 2 ^ min (56 : Int).toNat IntKind.u64.bits) = ((a * 72057594037927936 % 18446744073709551616 : Nat) : Int) := by
 show (((a : Int) * 2 ^ 56) % 18446744073709551616 : Int) = _
 omega
theorem oS (a : Nat) : ((a : Nat) : Int) / 2 ^ min (1 : Int).toNat IntKind.u64.bits = ((a / 2 : Nat) : Int) := by
 show ((a : Int) / 2 ^ 1 : Int) = _
 omega
end Gm
theorem mA (a b c d : Nat) (ha : a < 18446744073709551616) (hb : b < 18446744073709551616) (hc : c < 18446744073709551616) (hd : d < 18446744073709551616) (w : World) :
  Ct 178 #[.agg (pv a b), .agg (pv c d)] w fun e w' => e = .returned (.agg (pv (Gm.mul a b c d).1 (Gm.mul a b c d).2)) ∧ Ext w w' := by
 have F := aA.refl [] w
 refine aH (s := 2) 61 func178 rfl rfl rfl underlying220 rfl Kr rfl ?_
 intro _ hret
 refine au 2 ?_
 refine ag (iJ rfl rfl) rfl ?_
 rintro _ _ ⟨VJ, rfl, B2, _, ex⟩
 have VS := B2.lt; have VT := ex.size
 replace F := F.ext ex
 refine ag (iJ rfl rfl) rfl ?_
 rintro _ _ ⟨VE, rfl, B3, VH, ex⟩
 replace F := F.grow ex VH
 replace B2 := B2.grow ex VH
 refine ag (cw (Z := #[.int .u64 0, .int .u64 0]) Kr) rfl ?_
 rintro _ _ ⟨VC, rfl, B4, VB, ex⟩
 have VN : VE < VC := Nat.lt_of_lt_of_le B3.lt VB
 replace F := F.grow ex VB
 replace B2 := B2.grow ex VB
 replace B3 := B3.grow ex VB
 refine au 2 ?_
 refine fu 0 (fun n' L wr => ∃ (n Vy : Nat), L = [(2, .pointer (some ⟨VJ, 0, none⟩)), (3, .pointer (some ⟨VE, 0, none⟩)), (4, .pointer (some ⟨VC, 0, none⟩)), (5, .pointer (some ⟨Vy, 0, none⟩)), (6, .int .i64 (n : Int))] ∧ n' = 127 - n ∧ (n ≤ 127 ∧ VJ < VE ∧ VE < VC ∧ VC < Vy ∧ w.heap.size ≤ VJ ∧ aA [Vy, VC, VE] w wr ∧ ao wr VJ 220 (pv a b) ∧ ao wr VE 220 (pv (qs c d n).1 (qs c d n).2) ∧ ao wr VC 220 (pv 0 0) ∧ ao wr Vy 220 (pv (os a b c d n).1 (os a b c d n).2))) rfl ?_ ?_
 ·rintro G n' L wr ⟨n, Vy, rfl, rfl, _, VK, n34, n45, VL, F, B2, B3, B4, B5⟩ VF
  obtain ⟨VO, VG⟩ := Er hc hd n
  obtain ⟨VP, VQ⟩ := Fy (a := a) (b := b) hc hd n
  refine au 4 ?_
  refine aR (dA rfl rfl) rfl (fun a1 => ?_) (fun a1 => ?_)
  ·refine au 1 ?_
   refine gE 10 (dB 0 1 0 0 Tn.u) ?_
   refine gE 10 (af rfl Tn.u rfl (B2.get (i := 0) rfl)) ?_
   refine au 1 ?_
   refine gE 10 (eS rfl rfl (bc Om Om)) ?_
   refine gE 10 (bZ rfl rfl Om (Jk a (63 - n) Om Om)) ?_
   refine gE 10 (cM rfl rfl (sE _ (Nat.lt_of_le_of_lt (Nat.div_le_self _ _) ha))) ?_
   refine aJ 10 rfl rfl (cL rfl rfl) rfl (fun b1 => ?_) (fun b1 => ?_)
   ·refine au 5 ?_
    refine dg 22 rfl rfl rfl ?_
    refine dg 22 rfl rfl rfl ?_
    refine dg 22 rfl rfl rfl ?_
    refine dg 22 rfl rfl rfl ?_
    refine dg 22 rfl rfl rfl ?_
    refine dg 22 rfl rfl rfl ?_
    refine dg 22 rfl rfl rfl ?_
    refine au 4 ?_
    refine bR rfl rfl ?_
    refine au 1 ?_
    refine ak (aY rfl Tn.u rfl Kr B5) ?_
    refine ak (aY rfl Tn.u rfl Kr B3) ?_
    refine aB func177 rfl (jh _ _ _ _ VP VQ VO VG _) ?_
    rintro e w4 ⟨rfl, ex⟩
    obtain ⟨F,B2,B3,B4,B5⟩ := er ex F B2 B3 B4 B5
    refine au 1 ?_
    refine ag (aL (o := 0) rfl rfl Kr B5 Nb (aS rfl)) rfl ?_
    rintro _ VI ⟨rfl, D, cg⟩
    have ex := aA.one cg
    clear cg
    obtain ⟨F,B2,B3,B4⟩ := dj ex F B2 B3 B4
    replace B5 := D; clear D
    replace B5 := B5.congr (cs' := pv ((os a b c d n).1 ^^^ (qs c d n).1) ((os a b c d n).2 ^^^ (qs c d n).2)) rfl
    have hbit : bit a b n = 1 := by unfold bit; rw [if_pos Om]; omega
    replace B5 := B5.congr (cs' := pv (os a b c d (n + 1)).1 (os a b c d (n + 1)).2) (by rw [os, if_pos hbit])
    refine au 4 ?_
    refine ak (dB 1 1 0 1 Tn.u) ?_
    refine ak (af rfl Tn.u rfl (B3.get (i := 1) rfl)) ?_
    refine ak (cM rfl rfl (sE _ VG)) ?_
    refine au 5 ?_
    refine ak (dB 0 1 0 0 Tn.u) ?_
    refine ak (af rfl Tn.u rfl (B3.get (i := 0) rfl)) ?_
    refine ak (bZ rfl rfl Om (oS _)) ?_
    refine ak (dB 1 1 0 1 Tn.u) ?_
    refine ak (af rfl Tn.u rfl (B3.get (i := 1) rfl)) ?_
    refine ak (bZ rfl rfl Om (oS _)) ?_
    refine ak (dB 0 1 0 0 Tn.u) ?_
    refine ak (af rfl Tn.u rfl (B3.get (i := 0) rfl)) ?_
    refine ak (fk rfl rfl Om (uF _)) ?_
    refine ak (iH rfl rfl ((cu Om (Nat.mod_lt _ Om)).2.1)) ?_
    refine ak (aq rfl (cells := pv ((qs c d n).1 / 2) ((qs c d n).2 / 2 ||| ((qs c d n).1 * 9223372036854775808 % 18446744073709551616))) Kr) ?_
    refine ag (aL (o := 0) rfl rfl Kr B3 Nb (aS rfl)) rfl ?_
    rintro _ Vw ⟨rfl, D, cg⟩
    have ex := aA.one cg
    clear cg
    obtain ⟨F,B2,B4,B5⟩ := dj ex F B2 B4 B5
    replace B3 := D; clear D
    replace B3 := B3.congr (cs' := pv ((qs c d n).1 / 2) ((qs c d n).2 / 2 ||| ((qs c d n).1 * 9223372036854775808 % 18446744073709551616))) rfl
    refine au 4 ?_
    refine ak (dB 0 1 0 0 Tn.u) ?_
    refine ak (af rfl Tn.u rfl (B3.get (i := 0) rfl)) ?_
    refine au 1 ?_
    refine ak (cD rfl rfl (show _ = (((qs c d n).2 % 2 * 225 : Nat) : Int) from IntWalk.u64_in _ ⟨by omega, by omega⟩)) ?_
    refine ak (fk rfl rfl Om (tU _)) ?_
    refine ak (bI rfl rfl ((cu Om (Nat.mod_lt _ Om)).2.2)) ?_
    refine ak (dB 0 1 0 0 Tn.u) ?_
    refine ag (av (i := 0) rfl rfl rfl Kr B3 Nb) rfl ?_
    rintro _ Vz ⟨rfl, D, cg⟩
    have ex := aA.one cg
    clear cg
    obtain ⟨F,B2,B4,B5⟩ := dj ex F B2 B4 B5
    replace B3 := D; clear D
    replace B3 := B3.congr (cs' := pv (qs c d (n + 1)).1 (qs c d (n + 1)).2) rfl
    refine au 6 ?_
    refine ak (aO rfl rfl (bc Om Om)) ?_
    refine au 6 ?_
    refine ak (dA rfl rfl) ?_
    refine au 2 ?_
    refine al rfl (fun VD => ?_) (fun VD => ?_)
    ·refine au 2 ?_
     refine bV ?_
     refine VF _ _ ⟨n + 1, Vy, rfl, rfl, by omega, VK, n34, n45, VL, F, B2, B3, B4, B5⟩ Om Ls
    ·obtain rfl : n = 127 := by omega
     refine au 4 ?_
     refine ak (aY rfl Tn.u rfl Kr B5) ?_
     refine ag (aL (o := 0) rfl rfl Kr B4 Nb (aS rfl)) rfl ?_
     rintro _ Vx ⟨rfl, D, cg⟩
     have ex := aA.one cg
     clear cg
     replace F := F.bo ex
     replace B4 := D; clear D
     replace B4 := B4.congr (cs' := pv (os a b c d 128).1 (os a b c d 128).2) rfl
     refine au 3 ?_
     refine bK ?_
     refine hret rfl B4 rfl ?_
     exact ⟨rfl, ((F.drop Om).drop Om).drop Om |>.aD (by simp)⟩
   ·refine au 3 ?_
    refine gE 19 (Y.as (sN rfl rfl) (congrArg Value.bool (decide_eq_false Om))) ?_
    refine au 12 ?_
    refine aX rfl rfl ?_
    have hbit : ¬ bit a b n = 1 := by unfold bit; rw [if_pos Om]; omega
    replace B5 := B5.congr (cs' := pv (os a b c d (n + 1)).1 (os a b c d (n + 1)).2) (by rw [os, if_neg hbit])
    refine au 4 ?_
    refine ak (dB 1 1 0 1 Tn.u) ?_
    refine ak (af rfl Tn.u rfl (B3.get (i := 1) rfl)) ?_
    refine ak (cM rfl rfl (sE _ VG)) ?_
    refine au 5 ?_
    refine ak (dB 0 1 0 0 Tn.u) ?_
    refine ak (af rfl Tn.u rfl (B3.get (i := 0) rfl)) ?_
    refine ak (bZ rfl rfl Om (oS _)) ?_
    refine ak (dB 1 1 0 1 Tn.u) ?_
    refine ak (af rfl Tn.u rfl (B3.get (i := 1) rfl)) ?_
    refine ak (bZ rfl rfl Om (oS _)) ?_
    refine ak (dB 0 1 0 0 Tn.u) ?_
    refine ak (af rfl Tn.u rfl (B3.get (i := 0) rfl)) ?_
    refine ak (fk rfl rfl Om (uF _)) ?_
    refine ak (iH rfl rfl ((cu Om (Nat.mod_lt _ Om)).2.1)) ?_
    refine ak (aq rfl (cells := pv ((qs c d n).1 / 2) ((qs c d n).2 / 2 ||| ((qs c d n).1 * 9223372036854775808 % 18446744073709551616))) Kr) ?_
    refine ag (aL (o := 0) rfl rfl Kr B3 Nb (aS rfl)) rfl ?_
    rintro _ Vw ⟨rfl, D, cg⟩
    have ex := aA.one cg
    clear cg
    obtain ⟨F,B2,B4,B5⟩ := dj ex F B2 B4 B5
    replace B3 := D; clear D
    replace B3 := B3.congr (cs' := pv ((qs c d n).1 / 2) ((qs c d n).2 / 2 ||| ((qs c d n).1 * 9223372036854775808 % 18446744073709551616))) rfl
    refine au 4 ?_
    refine ak (dB 0 1 0 0 Tn.u) ?_
    refine ak (af rfl Tn.u rfl (B3.get (i := 0) rfl)) ?_
    refine au 1 ?_
    refine ak (cD rfl rfl (show _ = (((qs c d n).2 % 2 * 225 : Nat) : Int) from IntWalk.u64_in _ ⟨by omega, by omega⟩)) ?_
    refine ak (fk rfl rfl Om (tU _)) ?_
    refine ak (bI rfl rfl ((cu Om (Nat.mod_lt _ Om)).2.2)) ?_
    refine ak (dB 0 1 0 0 Tn.u) ?_
    refine ag (av (i := 0) rfl rfl rfl Kr B3 Nb) rfl ?_
    rintro _ Vz ⟨rfl, D, cg⟩
    have ex := aA.one cg
    clear cg
    obtain ⟨F,B2,B4,B5⟩ := dj ex F B2 B4 B5
    replace B3 := D; clear D
    replace B3 := B3.congr (cs' := pv (qs c d (n + 1)).1 (qs c d (n + 1)).2) rfl
    refine au 6 ?_
    refine ak (aO rfl rfl (bc Om Om)) ?_
    refine au 6 ?_
    refine ak (dA rfl rfl) ?_
    refine au 2 ?_
    refine al rfl (fun VD => ?_) (fun VD => ?_)
    ·refine au 2 ?_
     refine bV ?_
     refine VF _ _ ⟨n + 1, Vy, rfl, rfl, by omega, VK, n34, n45, VL, F, B2, B3, B4, B5⟩ Om Ls
    ·obtain rfl : n = 127 := by omega
     refine au 4 ?_
     refine ak (aY rfl Tn.u rfl Kr B5) ?_
     refine ag (aL (o := 0) rfl rfl Kr B4 Nb (aS rfl)) rfl ?_
     rintro _ Vx ⟨rfl, D, cg⟩
     have ex := aA.one cg
     clear cg
     replace F := F.bo ex
     replace B4 := D; clear D
     replace B4 := B4.congr (cs' := pv (os a b c d 128).1 (os a b c d 128).2) rfl
     refine au 3 ?_
     refine bK ?_
     refine hret rfl B4 rfl ?_
     exact ⟨rfl, ((F.drop Om).drop Om).drop Om |>.aD (by simp)⟩
  ·refine au 11 ?_
   refine gE 19 (Y.as (sN rfl rfl) (congrArg Value.bool (decide_eq_true Om))) ?_
   refine au 1 ?_
   refine gE 22 (dB 1 1 0 1 Tn.u) ?_
   refine gE 22 (af rfl Tn.u rfl (B2.get (i := 1) rfl)) ?_
   refine au 1 ?_
   refine gE 22 (eS rfl rfl (bc Om Om)) ?_
   refine gE 22 (bZ rfl rfl Om (Jk b (127 - n) Om Om)) ?_
   refine gE 22 (cM rfl rfl (sE _ (Nat.lt_of_le_of_lt (Nat.div_le_self _ _) hb))) ?_
   refine aJ 22 rfl rfl (cL rfl rfl) rfl (fun b2 => ?_) (fun b2 => ?_)
   ·refine au 4 ?_
    refine bR rfl rfl ?_
    refine au 1 ?_
    refine ak (aY rfl Tn.u rfl Kr B5) ?_
    refine ak (aY rfl Tn.u rfl Kr B3) ?_
    refine aB func177 rfl (jh _ _ _ _ VP VQ VO VG _) ?_
    rintro e w4 ⟨rfl, ex⟩
    obtain ⟨F,B2,B3,B4,B5⟩ := er ex F B2 B3 B4 B5
    refine au 1 ?_
    refine ag (aL (o := 0) rfl rfl Kr B5 Nb (aS rfl)) rfl ?_
    rintro _ VI ⟨rfl, D, cg⟩
    have ex := aA.one cg
    clear cg
    obtain ⟨F,B2,B3,B4⟩ := dj ex F B2 B3 B4
    replace B5 := D; clear D
    replace B5 := B5.congr (cs' := pv ((os a b c d n).1 ^^^ (qs c d n).1) ((os a b c d n).2 ^^^ (qs c d n).2)) rfl
    have hbit : bit a b n = 1 := by unfold bit; rw [if_neg Om]; omega
    replace B5 := B5.congr (cs' := pv (os a b c d (n + 1)).1 (os a b c d (n + 1)).2) (by rw [os, if_pos hbit])
    refine au 4 ?_
    refine ak (dB 1 1 0 1 Tn.u) ?_
    refine ak (af rfl Tn.u rfl (B3.get (i := 1) rfl)) ?_
    refine ak (cM rfl rfl (sE _ VG)) ?_
    refine au 5 ?_
    refine ak (dB 0 1 0 0 Tn.u) ?_
    refine ak (af rfl Tn.u rfl (B3.get (i := 0) rfl)) ?_
    refine ak (bZ rfl rfl Om (oS _)) ?_
    refine ak (dB 1 1 0 1 Tn.u) ?_
    refine ak (af rfl Tn.u rfl (B3.get (i := 1) rfl)) ?_
    refine ak (bZ rfl rfl Om (oS _)) ?_
    refine ak (dB 0 1 0 0 Tn.u) ?_
    refine ak (af rfl Tn.u rfl (B3.get (i := 0) rfl)) ?_
    refine ak (fk rfl rfl Om (uF _)) ?_
    refine ak (iH rfl rfl ((cu Om (Nat.mod_lt _ Om)).2.1)) ?_
    refine ak (aq rfl (cells := pv ((qs c d n).1 / 2) ((qs c d n).2 / 2 ||| ((qs c d n).1 * 9223372036854775808 % 18446744073709551616))) Kr) ?_
    refine ag (aL (o := 0) rfl rfl Kr B3 Nb (aS rfl)) rfl ?_
    rintro _ Vw ⟨rfl, D, cg⟩
    have ex := aA.one cg
    clear cg
    obtain ⟨F,B2,B4,B5⟩ := dj ex F B2 B4 B5
    replace B3 := D; clear D
    replace B3 := B3.congr (cs' := pv ((qs c d n).1 / 2) ((qs c d n).2 / 2 ||| ((qs c d n).1 * 9223372036854775808 % 18446744073709551616))) rfl
    refine au 4 ?_
    refine ak (dB 0 1 0 0 Tn.u) ?_
    refine ak (af rfl Tn.u rfl (B3.get (i := 0) rfl)) ?_
    refine au 1 ?_
    refine ak (cD rfl rfl (show _ = (((qs c d n).2 % 2 * 225 : Nat) : Int) from IntWalk.u64_in _ ⟨by omega, by omega⟩)) ?_
    refine ak (fk rfl rfl Om (tU _)) ?_
    refine ak (bI rfl rfl ((cu Om (Nat.mod_lt _ Om)).2.2)) ?_
    refine ak (dB 0 1 0 0 Tn.u) ?_
    refine ag (av (i := 0) rfl rfl rfl Kr B3 Nb) rfl ?_
    rintro _ Vz ⟨rfl, D, cg⟩
    have ex := aA.one cg
    clear cg
    obtain ⟨F,B2,B4,B5⟩ := dj ex F B2 B4 B5
    replace B3 := D; clear D
    replace B3 := B3.congr (cs' := pv (qs c d (n + 1)).1 (qs c d (n + 1)).2) rfl
    refine au 6 ?_
    refine ak (aO rfl rfl (bc Om Om)) ?_
    refine au 6 ?_
    refine ak (dA rfl rfl) ?_
    refine au 2 ?_
    refine al rfl (fun VD => ?_) (fun VD => ?_)
    ·refine au 2 ?_
     refine bV ?_
     refine VF _ _ ⟨n + 1, Vy, rfl, rfl, by omega, VK, n34, n45, VL, F, B2, B3, B4, B5⟩ Om Ls
    ·obtain rfl : n = 127 := by omega
     refine au 4 ?_
     refine ak (aY rfl Tn.u rfl Kr B5) ?_
     refine ag (aL (o := 0) rfl rfl Kr B4 Nb (aS rfl)) rfl ?_
     rintro _ Vx ⟨rfl, D, cg⟩
     have ex := aA.one cg
     clear cg
     replace F := F.bo ex
     replace B4 := D; clear D
     replace B4 := B4.congr (cs' := pv (os a b c d 128).1 (os a b c d 128).2) rfl
     refine au 3 ?_
     refine bK ?_
     refine hret rfl B4 rfl ?_
     exact ⟨rfl, ((F.drop Om).drop Om).drop Om |>.aD (by simp)⟩
   ·refine au 4 ?_
    refine aX rfl rfl ?_
    have hbit : ¬ bit a b n = 1 := by unfold bit; rw [if_neg Om]; omega
    replace B5 := B5.congr (cs' := pv (os a b c d (n + 1)).1 (os a b c d (n + 1)).2) (by rw [os, if_neg hbit])
    refine au 4 ?_
    refine ak (dB 1 1 0 1 Tn.u) ?_
    refine ak (af rfl Tn.u rfl (B3.get (i := 1) rfl)) ?_
    refine ak (cM rfl rfl (sE _ VG)) ?_
    refine au 5 ?_
    refine ak (dB 0 1 0 0 Tn.u) ?_
    refine ak (af rfl Tn.u rfl (B3.get (i := 0) rfl)) ?_
    refine ak (bZ rfl rfl Om (oS _)) ?_
    refine ak (dB 1 1 0 1 Tn.u) ?_
    refine ak (af rfl Tn.u rfl (B3.get (i := 1) rfl)) ?_
    refine ak (bZ rfl rfl Om (oS _)) ?_
    refine ak (dB 0 1 0 0 Tn.u) ?_
    refine ak (af rfl Tn.u rfl (B3.get (i := 0) rfl)) ?_
    refine ak (fk rfl rfl Om (uF _)) ?_
    refine ak (iH rfl rfl ((cu Om (Nat.mod_lt _ Om)).2.1)) ?_
    refine ak (aq rfl (cells := pv ((qs c d n).1 / 2) ((qs c d n).2 / 2 ||| ((qs c d n).1 * 9223372036854775808 % 18446744073709551616))) Kr) ?_
    refine ag (aL (o := 0) rfl rfl Kr B3 Nb (aS rfl)) rfl ?_
    rintro _ Vw ⟨rfl, D, cg⟩
    have ex := aA.one cg
    clear cg
    obtain ⟨F,B2,B4,B5⟩ := dj ex F B2 B4 B5
    replace B3 := D; clear D
    replace B3 := B3.congr (cs' := pv ((qs c d n).1 / 2) ((qs c d n).2 / 2 ||| ((qs c d n).1 * 9223372036854775808 % 18446744073709551616))) rfl
    refine au 4 ?_
    refine ak (dB 0 1 0 0 Tn.u) ?_
    refine ak (af rfl Tn.u rfl (B3.get (i := 0) rfl)) ?_
    refine au 1 ?_
    refine ak (cD rfl rfl (show _ = (((qs c d n).2 % 2 * 225 : Nat) : Int) from IntWalk.u64_in _ ⟨by omega, by omega⟩)) ?_
    refine ak (fk rfl rfl Om (tU _)) ?_
    refine ak (bI rfl rfl ((cu Om (Nat.mod_lt _ Om)).2.2)) ?_
    refine ak (dB 0 1 0 0 Tn.u) ?_
    refine ag (av (i := 0) rfl rfl rfl Kr B3 Nb) rfl ?_
    rintro _ Vz ⟨rfl, D, cg⟩
    have ex := aA.one cg
    clear cg
    obtain ⟨F,B2,B4,B5⟩ := dj ex F B2 B4 B5
    replace B3 := D; clear D
    replace B3 := B3.congr (cs' := pv (qs c d (n + 1)).1 (qs c d (n + 1)).2) rfl
    refine au 6 ?_
    refine ak (aO rfl rfl (bc Om Om)) ?_
    refine au 6 ?_
    refine ak (dA rfl rfl) ?_
    refine au 2 ?_
    refine al rfl (fun VD => ?_) (fun VD => ?_)
    ·refine au 2 ?_
     refine bV ?_
     refine VF _ _ ⟨n + 1, Vy, rfl, rfl, by omega, VK, n34, n45, VL, F, B2, B3, B4, B5⟩ Om Ls
    ·obtain rfl : n = 127 := by omega
     refine au 4 ?_
     refine ak (aY rfl Tn.u rfl Kr B5) ?_
     refine ag (aL (o := 0) rfl rfl Kr B4 Nb (aS rfl)) rfl ?_
     rintro _ Vx ⟨rfl, D, cg⟩
     have ex := aA.one cg
     clear cg
     replace F := F.bo ex
     replace B4 := D; clear D
     replace B4 := B4.congr (cs' := pv (os a b c d 128).1 (os a b c d 128).2) rfl
     refine au 3 ?_
     refine bK ?_
     refine hret rfl B4 rfl ?_
     exact ⟨rfl, ((F.drop Om).drop Om).drop Om |>.aD (by simp)⟩
 ·intro G VF
  refine au 2 ?_
  refine ag (cw (Z := #[.int .u64 0, .int .u64 0]) Kr) rfl ?_
  rintro _ _ ⟨Vy, rfl, B5, VA, ex⟩
  have VR : VC < Vy := Nat.lt_of_lt_of_le B4.lt VA
  replace F := F.grow ex VA
  replace B2 := B2.grow ex VA
  replace B3 := B3.grow ex VA
  replace B4 := B4.grow ex VA
  refine au 7 ?_
  refine dE ?_; intro VU VM
  refine gn ?_
  refine ae (VM ?_)
  exact VF _ _ ⟨0, Vy, rfl, rfl, Nat.zero_le _, Om, Om, Om, Om, F, B2, B3, B4, B5⟩ Ls
end
end Go.Proofs.YtgfafidlkldeaaaGreat
