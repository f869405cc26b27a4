/- aes: a key is spread over the rounds. No conditions: contracts of functions. -/
import Derived.Test.YtgfafidlkldeaaaGreatBigC
import Derived.Test.YtgfafidlkldeaaaGreatVs
import Derived.Test.YtgfafidlkldeaaaGreatAu
import Derived.Test.YtgfafidlkldeaaaGreatSecE
set_option linter.unusedVariables false
set_option linter.unusedSimpArgs false
set_option maxHeartbeats 4000000
set_option maxRecDepth 4000
namespace Go.Proofs.YtgfafidlkldeaaaGreat
section
open Go.RowKit Tryz
attribute [local irreducible] Y Ef WL WC WK WQ WM cx
namespace Ae
def MF (a : Nat) : Nat := (2 * a % 256) ^^^ (if a / 128 = 1 then 27 else 0)
def out (a b o : Nat) : Nat := o ^^^ (if b % 2 = 1 then a else 0)
def Le : Nat → Nat → Nat → Nat → Nat
 | 0, _, _, o => o
 | k + 1, a, b, o => Le k (MF a) (b / 2) (out a b o)
def tm (a b : Nat) : Nat := Le 8 a b 0
theorem JW (a : Nat) : MF a < 256 := Nat.xor_lt_two_pow (n := 8) (Nat.mod_lt _ Om) (by split <;> omega)
theorem KP {a b o : Nat} (ha : a < 256) (ho : o < 256) : out a b o < 256 := Nat.xor_lt_two_pow (n := 8) ho (by split <;> omega)
theorem uI : ∀ (k a o : Nat), Le k a 0 o = o
 | 0, _, _ => rfl
 | k + 1, a, o => by rw [Le, Nat.zero_div, uI k]; unfold out; rw [if_neg Om, Nat.xor_zero]
theorem LY : ∀ x : Fin 256, bits .and .u8 ((x.val : Nat) : Int) 1 = ((x.val % 2 : Nat) : Int) := by decide +kernel
theorem LJ (p : Nat) (c : Prop) [Decidable c] (h : p = if c then 1 else 0) : IntKind.u8.wrap (0 - ((p : Nat) : Int)) = (((if c then 255 else 0 : Nat)) : Int) := by
 subst h; split <;> decide
theorem AO : ∀ x : Fin 256, bits .and .u8 ((x.val : Nat) : Int) 255 = ((x.val : Nat) : Int) ∧ bits .and .u8 ((x.val : Nat) : Int) 0 = 0 := by decide +kernel
theorem Lm (a : Nat) (ha : a < 256) (c : Prop) [Decidable c] : bits .and .u8 ((a : Nat) : Int) (((if c then 255 else 0 : Nat)) : Int) = (((if c then a else 0 : Nat)) : Int) := by
 split
 ·exact (AO ⟨a, ha⟩).1
 ·exact (AO ⟨a, ha⟩).2
theorem MO : ∀ x : Fin 256, IntKind.u8.wrap (((x.val : Nat) : Int) * 2 ^ min (1 : Int).toNat IntKind.u8.bits) = ((2 * x.val % 256 : Nat) : Int) := by decide +kernel
theorem MM : ∀ x : Fin 256, ((x.val : Nat) : Int) / 2 ^ min (7 : Int).toNat IntKind.u8.bits = ((x.val / 128 : Nat) : Int) := by decide +kernel
theorem Nq : ∀ x : Fin 256, ((x.val : Nat) : Int) / 2 ^ min (1 : Int).toNat IntKind.u8.bits = ((x.val / 2 : Nat) : Int) := by decide +kernel
end Ae
open Ae
theorem il (A B : Nat) (hA : A < 256) (hB : B < 256) (w : World) :
  Ct 252 #[.int .u8 (A : Int), .int .u8 (B : Int)] w fun e w' => e = .returned (.int .u8 ((tm A B : Nat) : Int)) ∧ tm A B < 256 ∧ Ext w w' := by
 refine aj 25 func252 rfl rfl rfl rfl ?_
 intro _ hret
 refine aU ?_
 refine aF (fun n' L wr => ∃ (j a b o : Nat), L = [(0, .int .u8 (a : Int)), (1, .int .u8 (b : Int)), (5, .int .u8 (o : Int))] ∧ n' = 1 + j ∧ (a < 256 ∧ b < 256 ∧ o < 256 ∧ b < 2 ^ j ∧ j ≤ 8 ∧ Le j a b o = tm A B ∧ Ext w wr)) _ _ ⟨8, A, B, 0, rfl, rfl, hA, hB, Om, hB, Nat.le_refl _, rfl, Ext.refl _⟩ Ls ?_
 rintro _ n' L wr ⟨j, a, b, o, rfl, rfl, ha, hb, ho, hj, _, ht, F⟩ Vl
 refine aU ?_
 refine al rfl (fun Vm => ?_) (fun Vm => ?_)
 ·obtain ⟨i, rfl⟩ : ∃ i, j = i + 1 := ⟨j - 1, by rcases j with _ | j; simp at hj; omega; omega⟩
  rw [Le] at ht
  rw [Nat.pow_succ] at hj
  refine au 9 ?_
  refine ak (cD rfl rfl (LY ⟨b, hb⟩)) ?_
  refine ak (Be rfl (LJ (b % 2) (b % 2 = 1) (by split <;> omega))) ?_
  refine ak (cD rfl rfl (Lm a ha (b % 2 = 1))) ?_
  refine ak (bJ rfl rfl (show _ = ((out a b o : Nat) : Int) from (bN ho (by split <;> omega)).2.2)) ?_
  refine au 5 ?_
  refine ak (eP rfl rfl Om (MO ⟨a, ha⟩)) ?_
  refine au 1 ?_
  refine ak (bY rfl rfl Om (MM ⟨a, ha⟩)) ?_
  refine ak (Be rfl (LJ (a / 128) (a / 128 = 1) (by split <;> omega))) ?_
  refine ak (cD rfl rfl (Lm 27 Om (a / 128 = 1))) ?_
  refine ak (bJ rfl rfl (show _ = ((MF a : Nat) : Int) from (bN (Nat.mod_lt _ Om) (by split <;> omega)).2.2)) ?_
  refine au 6 ?_
  refine ak (bY rfl rfl Om (Nq ⟨b, hb⟩)) ?_
  refine au 2 ?_
  refine ae ?_
  refine Vl _ _ ⟨i, MF a, b / 2, out a b o, rfl, rfl, JW a, Om, KP ha ho, Om, Om, ht, F⟩ Om Ls
 ·refine aU ?_
  refine hret rfl ?_
  obtain rfl : b = 0 := by omega
  rw [uI] at ht
  exact ⟨by rw [← ht], by rw [← ht]; exact ho, F⟩
namespace Ae
def Mw (x k : Nat) : Nat := x * 2 ^ k % 256 ||| x / 2 ^ (8 - k)
theorem Ds {x k : Nat} (hx : x < 256) : Mw x k < 256 := Nat.or_lt_two_pow (n := 8) (Nat.mod_lt _ Om) (Nat.lt_of_le_of_lt (Nat.div_le_self _ _) hx)
theorem GQ : ∀ x : Fin 256, ∀ k : Fin 5, (bits .or .u8 (IntKind.u8.wrap (((x.val : Nat) : Int) * 2 ^ min ((k.val : Nat) : Int).toNat IntKind.u8.bits)) (((x.val : Nat) : Int) / 2 ^ min (8 - ((k.val : Nat) : Int)).toNat IntKind.u8.bits)) = ((Mw x.val k.val : Nat) : Int) := by decide +kernel
theorem M5 : ∀ k : Fin 5, bits .and .u64 ((k.val : Nat) : Int) 7 = ((k.val : Nat) : Int) := by decide +kernel
def bp : Nat → Nat
 | 0 => 1
 | i + 1 => tm (bp i) 3
def bq : Nat → Nat
 | 0 => 1
 | i + 1 => tm (bq i) 246
def bx (q : Nat) : Nat → Nat
 | 0 => q
 | n + 1 => bx q n ^^^ Mw q (n + 1)
def Ga : Nat → List UInt8
 | 0 => (List.replicate 256 0).set 0 99
 | i + 1 => (Ga i).set (bp (i + 1)) (UInt8.ofNat (bx (bq (i + 1)) 4 ^^^ 99))
theorem iM : ∀ i, (Ga i).length = 256
 | 0 => by unfold Ga; rw [List.length_set, List.length_replicate]
 | i + 1 => by unfold Ga; rw [List.length_set, iM i]
theorem xF {q : Nat} (h : q < 256) : ∀ n, bx q n < 256
 | 0 => h
 | n + 1 => Nat.xor_lt_two_pow (n := 8) (xF h n) (Ds h)
def box : List UInt8 := Ga 255
end Ae
theorem Br (x k : Nat) (hx : x < 256) (hk : k < 5) (w : World) :
  Ct 253 #[.int .u8 (x : Int), .int .i64 (k : Int)] w fun e w' => e = .returned (.int .u8 ((Mw x k : Nat) : Int)) ∧ Ext w w' := by
 refine aj 17 func253 rfl rfl rfl rfl ?_
 intro _ hret
 refine au 9 ?_
 refine ak (cD rfl rfl (M5 ⟨k, hk⟩)) ?_
 refine au 7 ?_
 refine ak (eP rfl rfl Om rfl) ?_
 refine au 2 ?_
 refine ak (eK rfl rfl (IntWalk.u64_in _ ⟨by omega, by omega⟩)) ?_
 refine ak (bY rfl rfl Om rfl) ?_
 refine ak (jk rfl rfl (GQ ⟨x, hx⟩ ⟨k, hk⟩)) ?_
 refine aU ?_
 refine hret rfl ?_
 exact ⟨rfl, Ext.refl _⟩
end
section
open Go.RowKit Tryz
attribute [local irreducible] Y Ef WL WC WK WQ WM cx
open Ae
theorem eT {v : Nat} (h : v < 256) : ((UInt8.ofNat v).toNat : Int) = (v : Int) := by rw [UInt8.toNat_ofNat']; omega
theorem zS (w : World) : Ct 225 #[] w fun e w' => e = .returned (.agg (cJ box)) ∧ Ext w w' := by
 have F := aX.refl [] w
 refine aI (s := 256) 29 func225 rfl rfl rfl underlying265 rfl Kr rfl ?_
 intro _ hret
 refine aU ?_
 intro _ Vm B0 Vp ex
 have Vw := ex.size
 replace F := F.grow ex Vp
 refine aU ?_
 intro _ Vl B1 Vn ex
 have Vq : Vm < Vl := Nat.lt_of_lt_of_le B0.lt Vn
 replace F := F.grow ex Vn
 replace B0 := B0.grow ex Vn
 replace B1 := B1.congr (cs' := cJ (List.replicate 256 0)) Kr
 refine au 10 ?_
 refine ak (bG rfl rfl Tn.u Kr (j := 0) Om Om) ?_
 refine af (az rfl rfl rfl Kr B1 (by rw [aW, List.length_replicate]; omega)) rfl ?_
 rintro _ w3 ⟨rfl, D1, cg⟩
 have ex := aX.one cg
 clear cg; rw [show (99 : Int) = (((99 : UInt8).toNat : Nat) : Int) from rfl, eR] at D1
 obtain ⟨F,B0⟩ := rL ex F B0
 refine aU ?_
 have B1 : ao w3 Vl 265 (cJ (Ga 0)) := D1
 replace B0 := B0.congr (cs' := cJ (List.replicate 256 0)) Kr
 refine aF (fun n' L wr => ∃ (i : Nat), L = [(0, .pointer (some ⟨Vm, 0, none⟩)), (1, .pointer (some ⟨Vl, 0, none⟩)), (2, .int .u8 ((bp i : Nat) : Int)), (3, .int .u8 ((bq i : Nat) : Int)), (7, .int .i64 (i : Int))] ∧ n' = 255 - i ∧ (i ≤ 255 ∧ bp i < 256 ∧ bq i < 256 ∧ aX [Vl, Vm] w wr ∧ ao wr Vm 265 (cJ (List.replicate 256 0)) ∧ ao wr Vl 265 (cJ (Ga i)))) _ _ ⟨0, rfl, rfl, Nat.zero_le _, (by decide), (by decide), F, B0, B1⟩ Ls ?_
 rintro _ n' L wr ⟨i, rfl, rfl, _, hp, hq, F, B0, B1⟩ Vs
 refine aU ?_
 refine al rfl (fun Vt => ?_) (fun Vt => ?_)
 ·refine aU ?_
  refine aL func252 rfl (il (bp i) 3 hp Om _) ?_
  rintro e _ ⟨rfl, Vr, ex⟩
  obtain ⟨F,B0,B1⟩ := bC ex F B0 B1
  refine aU ?_
  refine aL func252 rfl (il (bq i) 246 hq Om _) ?_
  rintro e _ ⟨rfl, Vo, ex⟩
  obtain ⟨F,B0,B1⟩ := bC ex F B0 B1
  refine aU ?_
  refine aF (fun n' L ws => ∃ (n : Nat), L = [(0, .pointer (some ⟨Vm, 0, none⟩)), (1, .pointer (some ⟨Vl, 0, none⟩)), (2, .int .u8 ((bp (i + 1) : Nat) : Int)), (3, .int .u8 ((bq (i + 1) : Nat) : Int)), (4, .int .u8 ((bx (bq (i + 1)) n : Nat) : Int)), (5, .int .i64 ((n : Int) + 1)), (7, .int .i64 (i : Int))] ∧ n' = 4 - n ∧ (n ≤ 4 ∧ aX [Vl, Vm] w ws ∧ ao ws Vm 265 (cJ (List.replicate 256 0)) ∧ ao ws Vl 265 (cJ (Ga i)))) _ _ ⟨0, rfl, rfl, Nat.zero_le _, F, B0, B1⟩ Ls ?_
  rintro _ n' L ws ⟨n, rfl, rfl, _, F, B0, B1⟩ Vu
  refine aU ?_
  refine al rfl (fun Vv => ?_) (fun Vv => ?_)
  ·refine aU ?_
   refine aL func253 rfl (Br (bq (i + 1)) (n + 1) Vo Om _) ?_
   rintro e _ ⟨rfl, ex⟩
   obtain ⟨F,B0,B1⟩ := bC ex F B0 B1
   refine au 1 ?_
   refine ak (bJ rfl rfl ((bN (xF Vo n) (Ds Vo)).2.2)) ?_
   refine au 9 ?_
   refine ae ?_
   refine Vu _ _ ⟨n + 1, rfl, rfl, by omega, F, B0, B1⟩ Om Ls
  ·obtain rfl : n = 4 := by omega
   have Vx : bp (i + 1) < 256 := Vr
   have hv : bx (bq (i + 1)) 4 ^^^ 99 < 256 := Nat.xor_lt_two_pow (n := 8) (xF Vo 4) Om
   refine au 8 ?_
   refine ak (bJ rfl rfl ((bN (q := 99) (xF Vo 4) (show 99 < 256 by omega)).2.2)) ?_
   refine ak (bG rfl rfl Tn.u Kr (j := bp (i + 1)) Om Om) ?_
   refine af (az rfl rfl rfl Kr B1 (by rw [aW, iM]; omega)) rfl ?_
   rintro _ _ ⟨rfl, D1, cg⟩
   have ex := aX.one cg
   clear cg; rw [← eT (v := bx (tm (bq i) 246) 4 ^^^ 99) hv, eR, Nat.zero_add] at D1
   obtain ⟨F,B0⟩ := rL ex F B0
   refine au 7 ?_
   refine ae ?_
   refine Vs _ _ ⟨i + 1, rfl, rfl, by omega, Vr, Vo, F, B0, D1⟩ Om Ls
 ·obtain rfl : i = 255 := by omega
  obtain ⟨T, hT⟩ : ∃ T, T = Ga 255 := ⟨_, rfl⟩
  have hTl : T.length = 256 := by rw [hT]; exact iM _
  rw [← hT] at B1
  refine au 7 ?_
  refine ak (aV rfl Tn.u rfl (by rw [aW, hTl]; kernel_rfl) B1) ?_
  refine af (ag rfl rfl (by rw [aW, hTl]; kernel_rfl) B0 (by rw [aW, aW, hTl, List.length_replicate]) (jT _)) rfl ?_
  rintro _ _ ⟨rfl, D0, cg⟩
  have ex := aX.one cg
  clear cg
  replace F := F.bT ex
  refine aU ?_
  refine hret rfl D0 (by rw [aW, hTl]) ?_
  rw [hT]; exact ⟨rfl, (F.drop Om).drop Om |>.cM (by simp)⟩
end
section
open Go.RowKit Tryz
attribute [local irreducible] Y Ef WL WC WK WQ WM cx WN WF cT WJ gZ
open Ae
namespace Ae
def cell (l : Lb) (k : Nat) : Nat := (l.getD k 0).toNat
theorem c8 (l : Lb) (k : Nat) : cell l k < 256 := UInt8.toNat_lt _
def MV (m : Lb) (off i all fst : Nat) : Nat := cell m (off + i) ^^^ (all ^^^ tm (cell m (off + i) ^^^ (if i < 3 then cell m (off + (i + 1)) else fst)) 2)
def Ej (l : Lb) (off all fst : Nat) : Nat → List UInt8
 | 0 => l
 | i + 1 => (Ej l off all fst i).set (off + i) (UInt8.ofNat (MV (Ej l off all fst i) off i all fst))
theorem kW (l : Lb) (off all fst : Nat) : ∀ i, (Ej l off all fst i).length = l.length
 | 0 => rfl
 | i + 1 => by rw [Ej, List.length_set, kW l off all fst i]
def mix (l : Lb) (off : Nat) : List UInt8 := Ej l off (((cell l (off + 0) ^^^ cell l (off + 1)) ^^^ cell l (off + 2)) ^^^ cell l (off + 3)) (cell l (off + 0)) 4
theorem vS (l : Lb) (off : Nat) : (mix l off).length = l.length := kW _ _ _ _ _
theorem x8 {a b : Nat} (ha : a < 256) (hb : b < 256) : a ^^^ b < 256 := Nat.xor_lt_two_pow (n := 8) ha hb
end Ae
theorem pL {w : World} {g k : Nat} {t : TypeId} {l : Lb} (B : ao w g t (cJ l)) (h : k < l.length) : w.cell? ⟨g, k, none⟩ = some (.int .u8 ((Ae.cell l k : Nat) : Int)) := by
 rw [B.cell]; unfold cJ Ae.cell
 rw [List.getElem?_toArray, List.getElem?_map, List.getElem?_eq_getElem h, List.getD_eq_getElem?_getD, List.getElem?_eq_getElem h]; rfl
theorem Eu {g off c : Nat} {t : TypeId} {l : Lb} (w : World) (B0 : ao w g t (cJ l)) (h : off + 4 ≤ l.length) :
  Ct 227 #[.slice (some ⟨g, off, none⟩) 4 c] w fun e w' => e = .returned (.tuple #[]) ∧ ao w' g t (cJ (mix l off)) ∧ aX [g] w w' := by
 have F := aX.refl [g] w
 have B := B0
 obtain ⟨all, hall⟩ : ∃ a, a = ((cell l (off + 0) ^^^ cell l (off + 1)) ^^^ cell l (off + 2)) ^^^ cell l (off + 3) := ⟨_, rfl⟩
 have Vl : all < 256 := by rw [hall]; exact x8 (x8 (x8 (c8 _ _) (c8 _ _)) (c8 _ _)) (c8 _ _)
 obtain ⟨fst, hfst⟩ : ∃ a, a = cell l (off + 0) := ⟨_, rfl⟩
 have Vp : fst < 256 := by rw [hfst]; exact c8 _ _
 have hM : mix l off = Ej l off all fst 4 := by rw [hall, hfst]; rfl
 refine jG 51 func227 rfl rfl rfl rfl ?_
 intro _ hret
 refine aU ?_
 refine aA Kr 16 rfl ?_; intro Vu ex Vv
 obtain ⟨F,B⟩ := aY ex F B
 refine zm [0] ?_
 refine my 1 rfl (aD rfl rfl Tn.u Kr (j := 0) Om Om) ?_
 refine my 2 rfl (ah rfl Tn.u rfl (pL B (k := off + 0) Om)) ?_
 refine zm [3] ?_
 refine my 4 rfl (aD rfl rfl Tn.u Kr (j := 1) Om Om) ?_
 refine my 5 rfl (ah rfl Tn.u rfl (pL B (k := off + 1) Om)) ?_
 refine my 6 rfl (bJ rfl rfl ((bN (c8 _ _) (c8 _ _)).2.2)) ?_
 refine zm [7] ?_
 refine my 8 rfl (aD rfl rfl Tn.u Kr (j := 2) Om Om) ?_
 refine my 9 rfl (ah rfl Tn.u rfl (pL B (k := off + 2) Om)) ?_
 refine my 10 rfl (bJ rfl rfl ((bN (x8 (c8 _ _) (c8 _ _)) (c8 _ _)).2.2)) ?_
 refine zm [11] ?_
 refine my 12 rfl (aD rfl rfl Tn.u Kr (j := 3) Om Om) ?_
 refine my 13 rfl (ah rfl Tn.u rfl (pL B (k := off + 3) Om)) ?_
 refine my 14 rfl (bJ rfl rfl ((bN (x8 (x8 (c8 _ _) (c8 _ _)) (c8 _ _)) (c8 _ _)).2.2)) ?_
 refine Cc [15] ?_
 refine au 8 ?_
 refine ak (aD rfl rfl Tn.u Kr (j := 0) Om Om) ?_
 refine ak (ah rfl Tn.u rfl (pL B (k := off + 0) Om)) ?_
 refine au 9 ?_
 rw [← hall, ← hfst]
 refine aF (fun n' L wr => ∃ (i : Nat), L = [(0, .slice (some ⟨g, off, none⟩) 4 c), (2, .int .u8 ((all : Nat) : Int)), (3, .int .u8 ((fst : Nat) : Int)), (24, .int .i64 (i : Int))] ∧ n' = 4 - i ∧ (i ≤ 4 ∧ aX [g] w wr ∧ ao wr g t (cJ (Ej l off all fst i)))) _ _ ⟨0, rfl, rfl, Nat.zero_le _, F, B⟩ Ls ?_
 rintro _ n' L wr ⟨i, rfl, rfl, _, F, B⟩ Vo
 refine aU ?_
 refine al rfl (fun Vq => ?_) (fun Vq => ?_)
 ·obtain ⟨M, hMM⟩ : ∃ M, M = Ej l off all fst i := ⟨_, rfl⟩
  have hMl : M.length = l.length := by rw [hMM]; exact kW _ _ _ _ _
  rw [← hMM] at B
  obtain ⟨nx, hnx⟩ : ∃ n, n = (if i < 3 then cell M (off + (i + 1)) else fst) := ⟨_, rfl⟩
  have Vn : nx < 256 := by rw [hnx]; split; exact c8 _ _; exact Vp
  refine aU ?_
  refine al rfl (fun Vr => ?_) (fun Vr => ?_)
  ·refine au 4 ?_
   refine ak (aD rfl rfl Tn.u Kr (j := i + 1) Om Om) ?_
   refine ak (ah rfl Tn.u rfl (show _ = some (.int .u8 ((nx : Nat) : Int)) by rw [hnx, if_pos Om]; exact pL B (k := off + (i + 1)) Om)) ?_
   refine aU ?_
   refine iy [(15, [g])] Kr 16 rfl ?_; intro Vs ex Vt
   obtain ⟨F,B⟩ := aY ex F B
   refine vF [(0, []), (1, [])] ?_
   refine aU ?_
   refine pV 2 [] rfl (fun wr (cr : aX ([]) _ wr) => aD rfl rfl Tn.u Kr (j := i) Om Om) ?_
   refine pV 3 [] rfl (fun wr (cr : aX ([]) _ wr) => ah rfl Tn.u rfl (pL (B.bT cr) (k := off + i) Om)) ?_
   refine vF [(4, []), (5, []), (6, [])] ?_
   refine aU ?_
   refine pV 7 [] rfl (fun wr (cr : aX ([]) _ wr) => aD rfl rfl Tn.u Kr (j := i) Om Om) ?_
   refine pV 8 [] rfl (fun wr (cr : aX ([]) _ wr) => ah rfl Tn.u rfl (pL (B.bT cr) (k := off + i) Om)) ?_
   refine vF [(9, [])] ?_
   refine aU ?_
   refine pV 10 [] rfl (fun wr (cr : aX ([]) _ wr) => bJ rfl rfl ((bN (c8 _ _) Vn).2.2)) ?_
   refine eO 11 Kr ?_; refine yg rfl func252 rfl rfl rfl (il (cell M (off + i) ^^^ nx) 2 (x8 (c8 _ _) Vn) Om _) rfl ?_
   rintro e w8 ⟨rfl, Vm, ex⟩
   refine ⟨_, rfl, aX.of ex _, ?_⟩
   obtain ⟨F,B⟩ := aY ex F B
   refine pV 12 [] rfl (fun wr (cr : aX ([]) _ wr) => bJ rfl rfl ((bN Vl Vm).2.2)) ?_
   refine pV 13 [] rfl (fun wr (cr : aX ([]) _ wr) => bJ rfl rfl ((bN (c8 _ _) (x8 Vl Vm)).2.2)) ?_
   refine pV 14 [] rfl (fun wr (cr : aX ([]) _ wr) => aD rfl rfl Tn.u Kr (j := i) Om Om) ?_
   refine eO 15 Kr ?_; refine gv rfl (az rfl rfl rfl Kr B (by rw [aW]; omega)) rfl ?_
   rintro _ w9 ⟨rfl, D, cg⟩
   have ex := aX.one cg
   refine ⟨ex, ?_⟩
   clear cg; rw [← eT (x8 (c8 _ _) (x8 Vl Vm)), eR] at D
   replace F := F.bT ex
   refine iG Kr ?_
   refine au 7 ?_
   refine ae ?_
   refine Vo _ _ ⟨i + 1, rfl, rfl, by omega, F, (by rw [Ej, ← hMM]; unfold MV; rw [← hnx]; exact D)⟩ Om Ls
  ·refine au 2 ?_
   have hx : fst = nx := by rw [hnx, if_neg Om]
   rw [hx]
   refine iy [(15, [g])] Kr 16 rfl ?_; intro Vs ex Vt
   obtain ⟨F,B⟩ := aY ex F B
   refine vF [(0, []), (1, [])] ?_
   refine aU ?_
   refine pV 2 [] rfl (fun wr (cr : aX ([]) _ wr) => aD rfl rfl Tn.u Kr (j := i) Om Om) ?_
   refine pV 3 [] rfl (fun wr (cr : aX ([]) _ wr) => ah rfl Tn.u rfl (pL (B.bT cr) (k := off + i) Om)) ?_
   refine vF [(4, []), (5, []), (6, [])] ?_
   refine aU ?_
   refine pV 7 [] rfl (fun wr (cr : aX ([]) _ wr) => aD rfl rfl Tn.u Kr (j := i) Om Om) ?_
   refine pV 8 [] rfl (fun wr (cr : aX ([]) _ wr) => ah rfl Tn.u rfl (pL (B.bT cr) (k := off + i) Om)) ?_
   refine vF [(9, [])] ?_
   refine aU ?_
   refine pV 10 [] rfl (fun wr (cr : aX ([]) _ wr) => bJ rfl rfl ((bN (c8 _ _) Vn).2.2)) ?_
   refine eO 11 Kr ?_; refine yg rfl func252 rfl rfl rfl (il (cell M (off + i) ^^^ nx) 2 (x8 (c8 _ _) Vn) Om _) rfl ?_
   rintro e w8 ⟨rfl, Vm, ex⟩
   refine ⟨_, rfl, aX.of ex _, ?_⟩
   obtain ⟨F,B⟩ := aY ex F B
   refine pV 12 [] rfl (fun wr (cr : aX ([]) _ wr) => bJ rfl rfl ((bN Vl Vm).2.2)) ?_
   refine pV 13 [] rfl (fun wr (cr : aX ([]) _ wr) => bJ rfl rfl ((bN (c8 _ _) (x8 Vl Vm)).2.2)) ?_
   refine pV 14 [] rfl (fun wr (cr : aX ([]) _ wr) => aD rfl rfl Tn.u Kr (j := i) Om Om) ?_
   refine eO 15 Kr ?_; refine gv rfl (az rfl rfl rfl Kr B (by rw [aW]; omega)) rfl ?_
   rintro _ w9 ⟨rfl, D, cg⟩
   have ex := aX.one cg
   refine ⟨ex, ?_⟩
   clear cg; rw [← eT (x8 (c8 _ _) (x8 Vl Vm)), eR] at D
   replace F := F.bT ex
   refine iG Kr ?_
   refine au 7 ?_
   refine ae ?_
   refine Vo _ _ ⟨i + 1, rfl, rfl, by omega, F, (by rw [Ej, ← hMM]; unfold MV; rw [← hnx]; exact D)⟩ Om Ls
 ·refine aU ?_
  refine hret (.inr rfl) ?_
  obtain rfl : i = 4 := by omega
  rw [← hM] at B
  exact ⟨rfl, B, F⟩
end
section
open Go.RowKit Tryz
attribute [local irreducible] Y Ef WL WC WK WQ WM cx WN WF cT WJ gZ
open Ae
namespace Ae
def EF (T : Lb) (t : Lb) (f : Nat) : List UInt8 := [UInt8.ofNat (cell T (cell t 1) ^^^ f), UInt8.ofNat (cell T (cell t 2)), UInt8.ofNat (cell T (cell t 3)), UInt8.ofNat (cell T (cell t 0))]
def zF (T w : Lb) (f : Nat) : List UInt8 := if w.length % 16 = 0 then EF T (w.drop (w.length - 4)) f else w.drop (w.length - 4)
def xk (t w : Lb) : Nat → List UInt8
 | 0 => t
 | j + 1 => (xk t w j).set j (UInt8.ofNat (cell (xk t w j) j ^^^ cell w (w.length - 16 + j)))
def jw (T key : Lb) : Nat → List UInt8 × Nat
 | 0 => (key, 1)
 | i + 1 => ((jw T key i).1 ++ xk (zF T (jw T key i).1 (jw T key i).2) (jw T key i).1 4, if (jw T key i).1.length % 16 = 0 then tm (jw T key i).2 2 else (jw T key i).2)
theorem mU (t w : Lb) : ∀ j, (xk t w j).length = t.length
 | 0 => rfl
 | j + 1 => by rw [xk, List.length_set, mU t w j]
theorem oY {T w : Lb} {f : Nat} (h : 4 ≤ w.length) : (zF T w f).length = 4 := by
 unfold zF; split
 ·rfl
 ·rw [List.length_drop]; omega
theorem kE {T key : Lb} (hk : key.length = 16) : ∀ i, (jw T key i).1.length = 16 + 4 * i
  | 0 => hk
  | i + 1 => by
    have := kE (T := T) hk i
    rw [jw, List.length_append, mU, oY Om]; omega
def keys (T key : Lb) : List UInt8 := (jw T key 40).1
theorem tD {T key : Lb} (hk : key.length = 16) : (keys T key).length = 176 := kE hk 40
end Ae
theorem jt {w : World} {g n k : Nat} {xs : Lb} (H : Bs w (some ⟨g, 0, none⟩) n xs) (h : k < n) : w.cell? ⟨g, 0 + k, none⟩ = some (.int .u8 ((Ae.cell xs k : Nat) : Int)) := by
 obtain ⟨b', o', e, _, hc⟩ := H.get h
 injection e with e
 injection e with e1 e2 _
 subst e1; subst e2
 rw [hc]; unfold Ae.cell
 rw [List.getD_eq_getElem?_getD, List.getElem?_eq_getElem (by rw [H.1]; exact h)]
 try rfl
 try simp [bv]
theorem tv {w : World} {g k : Nat} {t : TypeId} {l : Lb} (B : ao w g t (cJ l)) (h : k < l.length) : w.cell? ⟨g, 0 + k, none⟩ = some (.int .u8 ((Ae.cell l k : Nat) : Int)) := by rw [Nat.zero_add]; exact pL B h
theorem BK (T t : Lb) (f : Nat) (hf : f < 256) : (#[.int .u8 ((cell T (cell t 1) ^^^ f : Nat) : Int), .int .u8 ((cell T (cell t 2) : Nat) : Int), .int .u8 ((cell T (cell t 3) : Nat) : Int), .int .u8 ((cell T (cell t 0) : Nat) : Int)] : Array Value) = cJ (EF T t f) := by
 simp only [cJ, EF, List.map_cons, List.map_nil, bv, eT (x8 (c8 _ _) hf), eT (c8 _ _)]
theorem Hn (m : Nat) : ((m : Nat) : Int).tmod 16 = ((m % 16 : Nat) : Int) := by rw [Int.tmod_eq_emod_of_nonneg Om]; omega
theorem vi {A : Oa} {c : Nat} {key T : Lb} (w : World) (HA : Bs w A 16 key) (hT : T.length = 256) :
  Ct 226 #[.slice A 16 c, .agg (cJ T)] w fun e w' => ∃ A' c', e = .returned (.slice A' 176 c') ∧ Row w' w.heap.size 5 A' 176 c' ((keys T key).map bv) ∧ Ext w w' := by
 have E := Ext.refl w
 refine aj 75 func226 rfl rfl rfl rfl ?_
 intro _ hret
 refine aU ?_
 intro Vn Vm B3 _ ex
 obtain ⟨HA,E⟩ := aY ex HA E
 have Vq := HA; have E0 := E; have Vr := B3
 refine aU ?_
 refine af (aB (z := .int .u8 0) Tn.u Kr rfl rfl rfl rfl rfl) rfl ?_
 rintro _ w1 ⟨g1, rfl, D1, Vs, ex⟩
 replace HA := HA.ext ex
 have X1 := ex; have R1 : Row w1 Vn.heap.size 5 (some ⟨g1, 0, none⟩) 0 0 [] := Row.new D1 Vs rfl (by unfold maxLen; omega)
 refine aU ?_
 refine af (aQ rfl rfl bF R1 HA.2 (by rw [List.length_map, HA.1]) aH Om Om X1.size) rfl ?_
 rintro _ _ ⟨A2, c2, rfl, R2, be, gr, hl⟩
 have X2 := X1.trans be; rw [List.nil_append] at R2
 refine aU ?_
 refine aF (fun n' L wr => ∃ (i m c5 : Nat) (A5 : Oa), L = [(3, .pointer (some ⟨Vm, 0, none⟩)), (5, .slice A5 m c5), (6, .int .u8 (((jw T key i).2 : Nat) : Int))] ∧ n' = 40 - i ∧ (i ≤ 40 ∧ m = 16 + 4 * i ∧ (jw T key i).2 < 256 ∧ Ext Vn wr ∧ Row wr Vn.heap.size 5 A5 m c5 ((jw T key i).1.map bv))) _ _ ⟨0, 0 + 16, c2, A2, rfl, rfl, Nat.zero_le _, rfl, (by show 1 < 256; omega), X2, R2⟩ Ls ?_
 rintro _ n' L wr ⟨i, m, c5, A5, rfl, rfl, _, _, hf, X, R⟩ Vt
 refine aU ?_
 refine al rfl (fun Vu => ?_) (fun Vu => ?_)
 ·have hWl := kE (T := T) Vq.1 i
  obtain ⟨W, hW⟩ : ∃ W, W = (jw T key i).1 := ⟨_, rfl⟩
  rw [← hW] at R hWl
  have hmW : m = W.length := by omega
  have BT : ao wr Vm 265 (cJ T) := Vr.ext X
  obtain ⟨ts, hts⟩ : ∃ t, t = W.drop (m - 4) := ⟨_, rfl⟩
  refine aU ?_
  refine af (aB (z := .int .u8 0) Tn.u Kr rfl rfl rfl rfl rfl) rfl ?_
  rintro _ w4 ⟨g4, rfl, D4, Vv, ex⟩
  have Y4 := ex; have R4 : Row w4 wr.heap.size 5 (some ⟨g4, 0, none⟩) 0 0 [] := Row.new D4 Vv rfl (by unfold maxLen; omega)
  refine au 4 ?_
  refine ak (ph (s := 1) rfl rfl Tn.u Kr (j := m - 4) Om Om) ?_
  have HC := (R.ext Y4).bs.kK (j := m - 4) Om R.cap
  rw [← hts] at HC
  refine af (aQ rfl rfl bF R4 HC.2 (by rw [List.length_map, HC.1]) aH Om Om Y4.size) rfl ?_
  rintro _ _ ⟨_, c6, rfl, R6, be, gr, hl⟩
  have Y5 := Y4.trans be; rw [List.nil_append] at R6; replace R6 := R6.congr (n' := 0 + (m - (m - 4))) rfl rfl; obtain ⟨gt, _, rfl, _⟩ := R6.get (i := 0) Om; have H6 := R6.bs; have Vl := BT.ext Y5
  refine au 8 ?_
  refine ak (cy rfl rfl Om (show _ = ((m % 16 : Nat) : Int) from Hn m)) ?_
  refine aU ?_
  refine et (fun L Vo => ∃ (gq nq cq fq : Nat), L = [(3, .pointer (some ⟨Vm, 0, none⟩)), (5, .slice A5 m c5), (6, .int .u8 ((fq : Nat) : Int)), (7, .slice (some ⟨gq, 0, none⟩) nq cq)] ∧ (nq = 4 ∧ fq = (jw T key (i + 1)).2 ∧ fq < 256 ∧ Ext wr Vo ∧ Row Vo wr.heap.size 5 (some ⟨gq, 0, none⟩) nq cq ((zF T W (jw T key i).2).map bv))) ?_ ?_
  ·skip
   refine al rfl (fun Vw => ?_) (fun Vw => ?_)
   ·refine aU ?_
    refine aA Kr 24 rfl ?_; intro VM ex VN
    obtain ⟨Y5,H6,Vl⟩ := bC ex Y5 H6 Vl
    refine zm [0] ?_
    refine my 1 rfl (aD rfl rfl Tn.u Kr (j := 1) Om Om) ?_
    refine my 2 rfl (ah rfl Tn.u rfl (jt H6 (k := 1) Om)) ?_
    refine my 3 rfl (bG rfl rfl Tn.u Kr (j := cell ts 1) Om (by have := c8 ts 1; omega)) ?_
    refine my 4 rfl (ah rfl Tn.u rfl (tv Vl (k := cell ts 1) (by rw [hT]; exact c8 _ _))) ?_
    refine zm [5] ?_
    refine my 6 rfl (bJ rfl rfl ((bN (c8 _ _) hf).2.2)) ?_
    refine zm [7] ?_
    refine my 8 rfl (aD rfl rfl Tn.u Kr (j := 2) Om Om) ?_
    refine my 9 rfl (ah rfl Tn.u rfl (jt H6 (k := 2) Om)) ?_
    refine my 10 rfl (bG rfl rfl Tn.u Kr (j := cell ts 2) Om (by have := c8 ts 2; omega)) ?_
    refine my 11 rfl (ah rfl Tn.u rfl (tv Vl (k := cell ts 2) (by rw [hT]; exact c8 _ _))) ?_
    refine zm [12] ?_
    refine my 13 rfl (aD rfl rfl Tn.u Kr (j := 3) Om Om) ?_
    refine my 14 rfl (ah rfl Tn.u rfl (jt H6 (k := 3) Om)) ?_
    refine my 15 rfl (bG rfl rfl Tn.u Kr (j := cell ts 3) Om (by have := c8 ts 3; omega)) ?_
    refine my 16 rfl (ah rfl Tn.u rfl (tv Vl (k := cell ts 3) (by rw [hT]; exact c8 _ _))) ?_
    refine zm [17] ?_
    refine my 18 rfl (aD rfl rfl Tn.u Kr (j := 0) Om Om) ?_
    refine my 19 rfl (ah rfl Tn.u rfl (jt H6 (k := 0) Om)) ?_
    refine my 20 rfl (bG rfl rfl Tn.u Kr (j := cell ts 0) Om (by have := c8 ts 0; omega)) ?_
    refine my 21 rfl (ah rfl Tn.u rfl (tv Vl (k := cell ts 0) (by rw [hT]; exact c8 _ _))) ?_
    have VO := Y5.size
    refine aM 22 Kr ?_; refine aO rfl (aB (z := .int .u8 0) Tn.u Kr rfl rfl rfl rfl rfl) rfl ?_
    rintro _ _ ⟨g6, rfl, D6, _, ex⟩
    refine ⟨.inr ex, ?_⟩
    replace Y5 := Y5.ext ex
    have Vp := D6.congr (BK T ts _ hf)
    refine zm [23] ?_
    refine aL func252 rfl (il (jw T key i).2 2 hf Om _) ?_
    rintro e w7 ⟨rfl, Vx, ex⟩
    obtain ⟨Y5,Vp⟩ := aY ex Y5 Vp
    refine au 3 ?_
    have hn : zF T W (jw T key i).2 = EF T ts (jw T key i).2 := by unfold zF; rw [if_pos Om, ← hmW, ← hts]
    have he : tm (jw T key i).2 2 = (jw T key (i + 1)).2 := by rw [jw]; exact (if_pos (by rw [← hW]; omega)).symm
    have RT : Row w7 wr.heap.size 5 (some ⟨g6, 0, none⟩) 4 4 ((zF T W (jw T key i).2).map bv) := by
     rw [hn]
     have := Row.new (base := wr.heap.size) Vp Om (n := 4) rfl (by unfold maxLen; omega)
     simpa [cJ] using this
    exact bB _ ⟨g6, 4, 4, tm (jw T key i).2 2, rfl, rfl, he, Vx, Y5, RT⟩ Ls
   ·refine aU ?_
    have hn : zF T W (jw T key i).2 = ts := by unfold zF; rw [if_neg Om, ← hmW, ← hts]
    have he : (jw T key i).2 = (jw T key (i + 1)).2 := by rw [jw]; exact (if_neg (by rw [← hW]; omega)).symm
    exact bB _ ⟨gt, 0 + (m - (m - 4)), c6, (jw T key i).2, rfl, Om, he, hf, Y5, (by rw [hn]; exact R6)⟩ Ls
  rintro L Vo ⟨gq, nq, cq, fq, rfl, _, hfq, Vy, Y, RT⟩
  subst hfq
  refine aU ?_
  refine aF (fun n' L ws => ∃ (j : Nat), L = [(3, .pointer (some ⟨Vm, 0, none⟩)), (5, .slice A5 m c5), (6, .int .u8 (((jw T key (i + 1)).2 : Nat) : Int)), (7, .slice (some ⟨gq, 0, none⟩) nq cq), (52, .int .i64 (nq : Int)), (53, .int .i64 (j : Int)), (51, .slice (some ⟨gq, 0, none⟩) nq cq)] ∧ n' = 4 - j ∧ (j ≤ 4 ∧ Ext wr ws ∧ Row ws wr.heap.size 5 (some ⟨gq, 0, none⟩) nq cq ((xk (zF T W (jw T key i).2) W j).map bv))) _ _ ⟨0, rfl, rfl, Nat.zero_le _, Y, RT⟩ Ls ?_
  rintro _ n' L ws ⟨j, rfl, rfl, _, Z, RJ⟩ Vz
  refine aU ?_
  refine al rfl (fun VA => ?_) (fun VA => ?_)
  ·refine aU ?_
   obtain ⟨V, hV⟩ : ∃ V, V = xk (zF T W (jw T key i).2) W j := ⟨_, rfl⟩
   rw [← hV] at RJ
   have HJ := RJ.bs
   have HW := (R.ext Z).bs
   obtain ⟨gw, _, rfl, _⟩ := R.get (i := 0) Om
   refine aA Kr 15 rfl ?_; intro VB ex VC
   obtain ⟨Z,RJ,HJ,HW⟩ := bU ex Z RJ HJ HW
   refine zm [0, 1] ?_
   refine cU 2 rfl (fun _ => aD rfl rfl Tn.u Kr (j := j) Om Om) ?_
   refine my 3 rfl (ah rfl Tn.u rfl (jt HJ (k := j) Om)) ?_
   refine zm [4, 5, 6, 7, 8, 9] ?_
   refine cU 10 rfl (fun _ => aD rfl rfl Tn.u Kr (j := m - 16 + j) Om Om) ?_
   refine my 11 rfl (ah rfl Tn.u rfl (jt HW (k := m - 16 + j) Om)) ?_
   refine cU 12 rfl (fun _ => bJ rfl rfl ((bN (c8 _ _) (c8 _ _)).2.2)) ?_
   refine cU 13 rfl (fun _ => aD rfl rfl Tn.u Kr (j := j) Om Om) ?_
   refine aM 14 Kr ?_; refine aO rfl (jR rfl rfl rfl Kr RJ Om) rfl ?_
   rintro _ VD ⟨rfl, VE, cg⟩
   refine ⟨.inl rfl, ?_⟩
   have VF := Z.aw cg (RJ.lt).1; have VG : Row VD wr.heap.size 5 (some ⟨gq, 0, none⟩) nq cq ((V.set j (UInt8.ofNat (cell V j ^^^ cell W (m - 16 + j)))).map bv) := (by rw [List.map_set, bv, eT (x8 (c8 _ _) (c8 _ _))]; exact VE)
   refine au 8 ?_
   refine ae ?_
   refine Vz _ _ ⟨j + 1, rfl, rfl, by omega, VF, (by rw [xk, ← hV, ← hmW]; exact VG)⟩ Om Ls
  ·obtain rfl : j = 4 := by omega
   have e1 : (jw T key (i + 1)).1 = W ++ xk (zF T W (jw T key i).2) W 4 := by rw [hW]; rfl
   have hxl : (xk (zF T W (jw T key i).2) W 4).length = 4 := by rw [mU, oY Om]
   refine aU ?_
   refine af (aQ rfl rfl bF (R.ext Z) RJ.at (by rw [List.length_map, hxl]; omega) aH Om Om (X.ext Z).size) rfl ?_
   rintro _ _ ⟨VH, VI, rfl, VJ, be, gr, hl⟩
   have VK := (X.ext Z).trans be; have VL := VJ.cat
   refine au 3 ?_
   refine ae ?_
   refine Vt _ _ ⟨i + 1, m + nq, VI, VH, rfl, rfl, by omega, by omega, Vy, VK, (by rw [e1]; exact VL)⟩ Om Ls
 ·refine aU ?_
  refine hret rfl ?_
  obtain rfl : i = 40 := by omega
  obtain rfl : m = 176 := by omega
  exact ⟨A5, c5, rfl, R.lower E0.size, E0.ext X⟩
end
end Go.Proofs.YtgfafidlkldeaaaGreat
