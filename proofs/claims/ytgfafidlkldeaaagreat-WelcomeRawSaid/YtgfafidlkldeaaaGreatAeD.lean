/- aes: a key is spread over the rounds. No conditions: contracts of functions. -/
import Derived.Test.YtgfafidlkldeaaaGreatBigC
import Derived.Test.YtgfafidlkldeaaaGreatVs
import Derived.Test.YtgfafidlkldeaaaGreatAu
import Derived.Test.YtgfafidlkldeaaaGreatHkB
set_option linter.unusedVariables false
set_option linter.unusedSimpArgs false
set_option maxHeartbeats 4000000
set_option maxRecDepth 4000
namespace Go.Proofs.YtgfafidlkldeaaaGreat
section
open Go.RowKit Tryz
attribute [local irreducible] Y Ef WL WC WK WQ WM cE
namespace Ae
def OM (a : Nat) : Nat := (2 * a % 256) ^^^ (if a / 128 = 1 then 27 else 0)
def out (a b o : Nat) : Nat := o ^^^ (if b % 2 = 1 then a else 0)
def NH : Nat → Nat → Nat → Nat → Nat
 | 0, _, _, o => o
 | k + 1, a, b, o => NH k (OM a) (b / 2) (out a b o)
def tm (a b : Nat) : Nat := NH 8 a b 0
theorem L9 (a : Nat) : OM a < 256 := Nat.xor_lt_two_pow (n := 8) (Nat.mod_lt _ Om) (by split <;> omega)
theorem Ni {a b o : Nat} (ha : a < 256) (ho : o < 256) : out a b o < 256 := Nat.xor_lt_two_pow (n := 8) ho (by split <;> omega)
theorem wO : ∀ (k a o : Nat), NH k a 0 o = o
 | 0, _, _ => rfl
 | k + 1, a, o => by rw [NH, Nat.zero_div, wO k]; unfold out; rw [if_neg Om, Nat.xor_zero]
theorem Oo : ∀ x : Fin 256, bits .and .u8 ((x.val : Nat) : Int) 1 = ((x.val % 2 : Nat) : Int) := by decide +kernel
theorem OA (p : Nat) (c : Prop) [Decidable c] (h : p = if c then 1 else 0) : IntKind.u8.wrap (0 - ((p : Nat) : Int)) = (((if c then 255 else 0 : Nat)) : Int) := by
 subst h; split <;> decide
theorem GI : ∀ x : Fin 256, bits .and .u8 ((x.val : Nat) : Int) 255 = ((x.val : Nat) : Int) ∧ bits .and .u8 ((x.val : Nat) : Int) 0 = 0 := by decide +kernel
theorem Oj (a : Nat) (ha : a < 256) (c : Prop) [Decidable c] : bits .and .u8 ((a : Nat) : Int) (((if c then 255 else 0 : Nat)) : Int) = (((if c then a else 0 : Nat)) : Int) := by
 split
 ·exact (GI ⟨a, ha⟩).1
 ·exact (GI ⟨a, ha⟩).2
theorem O9 : ∀ x : Fin 256, IntKind.u8.wrap (((x.val : Nat) : Int) * 2 ^ min (1 : Int).toNat IntKind.u8.bits) = ((2 * x.val % 256 : Nat) : Int) := by decide +kernel
theorem Pv : ∀ x : Fin 256, ((x.val : Nat) : Int) / 2 ^ min (7 : Int).toNat IntKind.u8.bits = ((x.val / 128 : Nat) : Int) := by decide +kernel
theorem P9 : ∀ x : Fin 256, ((x.val : Nat) : Int) / 2 ^ min (1 : Int).toNat IntKind.u8.bits = ((x.val / 2 : Nat) : Int) := by decide +kernel
end Ae
open Ae
theorem jl (A B : Nat) (hA : A < 256) (hB : B < 256) (w : World) :
  Ct 252 #[.int .u8 (A : Int), .int .u8 (B : Int)] w fun e w' => e = .returned (.int .u8 ((tm A B : Nat) : Int)) ∧ tm A B < 256 ∧ Ext w w' := by
 refine ai 25 func252 rfl rfl rfl rfl ?_
 intro _ hret
 refine aU ?_
 refine az (fun n' L wr => ∃ (j a b o : Nat), L = [(0, .int .u8 (a : Int)), (1, .int .u8 (b : Int)), (5, .int .u8 (o : Int))] ∧ n' = 1 + j ∧ (a < 256 ∧ b < 256 ∧ o < 256 ∧ b < 2 ^ j ∧ j ≤ 8 ∧ NH j a b o = tm A B ∧ Ext w wr)) _ _ ⟨8, A, B, 0, rfl, rfl, hA, hB, Om, hB, Nat.le_refl _, rfl, Ext.refl _⟩ Ls ?_
 rintro _ n' L wr ⟨j, a, b, o, rfl, rfl, ha, hb, ho, hj, _, ht, F⟩ Vw
 refine aU ?_
 refine al rfl (fun Vx => ?_) (fun Vx => ?_)
 ·obtain ⟨i, rfl⟩ : ∃ i, j = i + 1 := ⟨j - 1, by rcases j with _ | j; simp at hj; omega; omega⟩
  rw [NH] at ht
  rw [Nat.pow_succ] at hj
  refine au 9 ?_
  refine ak (cM rfl rfl (Oo ⟨b, hb⟩)) ?_
  refine ak (Dh rfl (OA (b % 2) (b % 2 = 1) (by split <;> omega))) ?_
  refine ak (cM rfl rfl (Oj a ha (b % 2 = 1))) ?_
  refine ak (bI rfl rfl (show _ = ((out a b o : Nat) : Int) from (bE ho (by split <;> omega)).2.2)) ?_
  refine au 5 ?_
  refine ak (fk rfl rfl Om (O9 ⟨a, ha⟩)) ?_
  refine au 1 ?_
  refine ak (bZ rfl rfl Om (Pv ⟨a, ha⟩)) ?_
  refine ak (Dh rfl (OA (a / 128) (a / 128 = 1) (by split <;> omega))) ?_
  refine ak (cM rfl rfl (Oj 27 Om (a / 128 = 1))) ?_
  refine ak (bI rfl rfl (show _ = ((OM a : Nat) : Int) from (bE (Nat.mod_lt _ Om) (by split <;> omega)).2.2)) ?_
  refine au 6 ?_
  refine ak (bZ rfl rfl Om (P9 ⟨b, hb⟩)) ?_
  refine au 2 ?_
  refine ae ?_
  refine Vw _ _ ⟨i, OM a, b / 2, out a b o, rfl, rfl, L9 a, Om, Ni ha ho, Om, Om, ht, F⟩ Om Ls
 ·refine aU ?_
  refine hret rfl ?_
  obtain rfl : b = 0 := by omega
  rw [wO] at ht
  exact ⟨by rw [← ht], by rw [← ht]; exact ho, F⟩
namespace Ae
def ON (x k : Nat) : Nat := x * 2 ^ k % 256 ||| x / 2 ^ (8 - k)
theorem GO {x k : Nat} (hx : x < 256) : ON x k < 256 := Nat.or_lt_two_pow (n := 8) (Nat.mod_lt _ Om) (Nat.lt_of_le_of_lt (Nat.div_le_self _ _) hx)
theorem KF : ∀ x : Fin 256, ∀ k : Fin 5, (bits .or .u8 (IntKind.u8.wrap (((x.val : Nat) : Int) * 2 ^ min ((k.val : Nat) : Int).toNat IntKind.u8.bits)) (((x.val : Nat) : Int) / 2 ^ min (8 - ((k.val : Nat) : Int)).toNat IntKind.u8.bits)) = ((ON x.val k.val : Nat) : Int) := by decide +kernel
theorem Pq : ∀ k : Fin 5, bits .and .u64 ((k.val : Nat) : Int) 7 = ((k.val : Nat) : Int) := by decide +kernel
def bp : Nat → Nat
 | 0 => 1
 | i + 1 => tm (bp i) 3
def bq : Nat → Nat
 | 0 => 1
 | i + 1 => tm (bq i) 246
def bx (q : Nat) : Nat → Nat
 | 0 => q
 | n + 1 => bx q n ^^^ ON q (n + 1)
def KQ : Nat → List UInt8
 | 0 => (List.replicate 256 0).set 0 99
 | i + 1 => (KQ i).set (bp (i + 1)) (UInt8.ofNat (bx (bq (i + 1)) 4 ^^^ 99))
theorem jD : ∀ i, (KQ i).length = 256
 | 0 => by unfold KQ; rw [List.length_set, List.length_replicate]
 | i + 1 => by unfold KQ; rw [List.length_set, jD i]
theorem Bb {q : Nat} (h : q < 256) : ∀ n, bx q n < 256
 | 0 => h
 | n + 1 => Nat.xor_lt_two_pow (n := 8) (Bb h n) (GO h)
def box : List UInt8 := KQ 255
end Ae
theorem Fx (x k : Nat) (hx : x < 256) (hk : k < 5) (w : World) :
  Ct 253 #[.int .u8 (x : Int), .int .i64 (k : Int)] w fun e w' => e = .returned (.int .u8 ((ON x k : Nat) : Int)) ∧ Ext w w' := by
 refine ai 17 func253 rfl rfl rfl rfl ?_
 intro _ hret
 refine au 9 ?_
 refine ak (cM rfl rfl (Pq ⟨k, hk⟩)) ?_
 refine au 7 ?_
 refine ak (fk rfl rfl Om rfl) ?_
 refine au 2 ?_
 refine ak (eS rfl rfl (IntWalk.u64_in _ ⟨by omega, by omega⟩)) ?_
 refine ak (bZ rfl rfl Om rfl) ?_
 refine ak (iH rfl rfl (KF ⟨x, hx⟩ ⟨k, hk⟩)) ?_
 refine aU ?_
 refine hret rfl ?_
 exact ⟨rfl, Ext.refl _⟩
end
section
open Go.RowKit Tryz
attribute [local irreducible] Y Ef WL WC WK WQ WM cE
open Ae
theorem fH {v : Nat} (h : v < 256) : ((UInt8.ofNat v).toNat : Int) = (v : Int) := by rw [UInt8.toNat_ofNat']; omega
theorem BC (w : World) : Ct 225 #[] w fun e w' => e = .returned (.agg (cT box)) ∧ Ext w w' := by
 have F := aA.refl [] w
 refine aH (s := 256) 29 func225 rfl rfl rfl underlying265 rfl Kr rfl ?_
 intro _ hret
 refine aU ?_
 intro _ Vx B0 VA ex
 have VH := ex.size
 replace F := F.grow ex VA
 refine aU ?_
 intro _ Vw B1 Vy ex
 have VB : Vx < Vw := Nat.lt_of_lt_of_le B0.lt Vy
 replace F := F.grow ex Vy
 replace B0 := B0.grow ex Vy
 replace B1 := B1.congr (cs' := cT (List.replicate 256 0)) Kr
 refine au 10 ?_
 refine ak (bG rfl rfl Tn.u Kr (j := 0) Om Om) ?_
 refine ag (av rfl rfl rfl Kr B1 (by rw [aW, List.length_replicate]; omega)) rfl ?_
 rintro _ w3 ⟨rfl, D1, cg⟩
 have ex := aA.one cg
 clear cg; rw [show (99 : Int) = (((99 : UInt8).toNat : Nat) : Int) from rfl, fI] at D1
 obtain ⟨F,B0⟩ := gA ex F B0
 refine aU ?_
 have B1 : ao w3 Vw 265 (cT (KQ 0)) := D1
 replace B0 := B0.congr (cs' := cT (List.replicate 256 0)) Kr
 refine az (fun n' L wr => ∃ (i : Nat), L = [(0, .pointer (some ⟨Vx, 0, none⟩)), (1, .pointer (some ⟨Vw, 0, none⟩)), (2, .int .u8 ((bp i : Nat) : Int)), (3, .int .u8 ((bq i : Nat) : Int)), (7, .int .i64 (i : Int))] ∧ n' = 255 - i ∧ (i ≤ 255 ∧ bp i < 256 ∧ bq i < 256 ∧ aA [Vw, Vx] w wr ∧ ao wr Vx 265 (cT (List.replicate 256 0)) ∧ ao wr Vw 265 (cT (KQ i)))) _ _ ⟨0, rfl, rfl, Nat.zero_le _, (by decide), (by decide), F, B0, B1⟩ Ls ?_
 rintro _ n' L wr ⟨i, rfl, rfl, _, hp, hq, F, B0, B1⟩ VD
 refine aU ?_
 refine al rfl (fun VE => ?_) (fun VE => ?_)
 ·refine aU ?_
  refine aB func252 rfl (jl (bp i) 3 hp Om _) ?_
  rintro e _ ⟨rfl, VC, ex⟩
  obtain ⟨F,B0,B1⟩ := bC ex F B0 B1
  refine aU ?_
  refine aB func252 rfl (jl (bq i) 246 hq Om _) ?_
  rintro e _ ⟨rfl, Vz, ex⟩
  obtain ⟨F,B0,B1⟩ := bC ex F B0 B1
  refine aU ?_
  refine az (fun n' L ws => ∃ (n : Nat), L = [(0, .pointer (some ⟨Vx, 0, none⟩)), (1, .pointer (some ⟨Vw, 0, none⟩)), (2, .int .u8 ((bp (i + 1) : Nat) : Int)), (3, .int .u8 ((bq (i + 1) : Nat) : Int)), (4, .int .u8 ((bx (bq (i + 1)) n : Nat) : Int)), (5, .int .i64 ((n : Int) + 1)), (7, .int .i64 (i : Int))] ∧ n' = 4 - n ∧ (n ≤ 4 ∧ aA [Vw, Vx] w ws ∧ ao ws Vx 265 (cT (List.replicate 256 0)) ∧ ao ws Vw 265 (cT (KQ i)))) _ _ ⟨0, rfl, rfl, Nat.zero_le _, F, B0, B1⟩ Ls ?_
  rintro _ n' L ws ⟨n, rfl, rfl, _, F, B0, B1⟩ VF
  refine aU ?_
  refine al rfl (fun VG => ?_) (fun VG => ?_)
  ·refine aU ?_
   refine aB func253 rfl (Fx (bq (i + 1)) (n + 1) Vz Om _) ?_
   rintro e _ ⟨rfl, ex⟩
   obtain ⟨F,B0,B1⟩ := bC ex F B0 B1
   refine au 1 ?_
   refine ak (bI rfl rfl ((bE (Bb Vz n) (GO Vz)).2.2)) ?_
   refine au 9 ?_
   refine ae ?_
   refine VF _ _ ⟨n + 1, rfl, rfl, by omega, F, B0, B1⟩ Om Ls
  ·obtain rfl : n = 4 := by omega
   have VI : bp (i + 1) < 256 := VC
   have hv : bx (bq (i + 1)) 4 ^^^ 99 < 256 := Nat.xor_lt_two_pow (n := 8) (Bb Vz 4) Om
   refine au 8 ?_
   refine ak (bI rfl rfl ((bE (q := 99) (Bb Vz 4) (show 99 < 256 by omega)).2.2)) ?_
   refine ak (bG rfl rfl Tn.u Kr (j := bp (i + 1)) Om Om) ?_
   refine ag (av rfl rfl rfl Kr B1 (by rw [aW, jD]; omega)) rfl ?_
   rintro _ _ ⟨rfl, D1, cg⟩
   have ex := aA.one cg
   clear cg; rw [← fH (v := bx (tm (bq i) 246) 4 ^^^ 99) hv, fI, Nat.zero_add] at D1
   obtain ⟨F,B0⟩ := gA ex F B0
   refine au 7 ?_
   refine ae ?_
   refine VD _ _ ⟨i + 1, rfl, rfl, by omega, VC, Vz, F, B0, D1⟩ Om Ls
 ·obtain rfl : i = 255 := by omega
  obtain ⟨T, hT⟩ : ∃ T, T = KQ 255 := ⟨_, rfl⟩
  have hTl : T.length = 256 := by rw [hT]; exact jD _
  rw [← hT] at B1
  refine au 7 ?_
  refine ak (aY rfl Tn.u rfl (by rw [aW, hTl]; kernel_rfl) B1) ?_
  refine ag (ah rfl rfl (by rw [aW, hTl]; kernel_rfl) B0 (by rw [aW, aW, hTl, List.length_replicate]) (lx _)) rfl ?_
  rintro _ _ ⟨rfl, D0, cg⟩
  have ex := aA.one cg
  clear cg
  replace F := F.bo ex
  refine aU ?_
  refine hret rfl D0 (by rw [aW, hTl]) ?_
  rw [hT]; exact ⟨rfl, (F.drop Om).drop Om |>.aD (by simp)⟩
end
section
open Go.RowKit Tryz
attribute [local irreducible] Y Ef WL WC WK WQ WM cE WN WF dc WJ gJ
open Ae
namespace Ae
def cell (l : Lb) (k : Nat) : Nat := (l.getD k 0).toNat
theorem c8 (l : Lb) (k : Nat) : cell l k < 256 := UInt8.toNat_lt _
def Pt (m : Lb) (off i all fst : Nat) : Nat := cell m (off + i) ^^^ (all ^^^ tm (cell m (off + i) ^^^ (if i < 3 then cell m (off + (i + 1)) else fst)) 2)
def Ih (l : Lb) (off all fst : Nat) : Nat → List UInt8
 | 0 => l
 | i + 1 => (Ih l off all fst i).set (off + i) (UInt8.ofNat (Pt (Ih l off all fst i) off i all fst))
theorem mB (l : Lb) (off all fst : Nat) : ∀ i, (Ih l off all fst i).length = l.length
 | 0 => rfl
 | i + 1 => by rw [Ih, List.length_set, mB l off all fst i]
def mix (l : Lb) (off : Nat) : List UInt8 := Ih l off (((cell l (off + 0) ^^^ cell l (off + 1)) ^^^ cell l (off + 2)) ^^^ cell l (off + 3)) (cell l (off + 0)) 4
theorem yA (l : Lb) (off : Nat) : (mix l off).length = l.length := mB _ _ _ _ _
theorem x8 {a b : Nat} (ha : a < 256) (hb : b < 256) : a ^^^ b < 256 := Nat.xor_lt_two_pow (n := 8) ha hb
end Ae
theorem qO {w : World} {g k : Nat} {t : TypeId} {l : Lb} (B : ao w g t (cT l)) (h : k < l.length) : w.cell? ⟨g, k, none⟩ = some (.int .u8 ((Ae.cell l k : Nat) : Int)) := by
 rw [B.cell]; unfold cT Ae.cell
 rw [List.getElem?_toArray, List.getElem?_map, List.getElem?_eq_getElem h, List.getD_eq_getElem?_getD, List.getElem?_eq_getElem h]; rfl
theorem Kg {g off c : Nat} {t : TypeId} {l : Lb} (w : World) (B0 : ao w g t (cT l)) (h : off + 4 ≤ l.length) :
  Ct 227 #[.slice (some ⟨g, off, none⟩) 4 c] w fun e w' => e = .returned (.tuple #[]) ∧ ao w' g t (cT (mix l off)) ∧ aA [g] w w' := by
 have F := aA.refl [g] w
 have B := B0
 obtain ⟨all, hall⟩ : ∃ a, a = ((cell l (off + 0) ^^^ cell l (off + 1)) ^^^ cell l (off + 2)) ^^^ cell l (off + 3) := ⟨_, rfl⟩
 have Vw : all < 256 := by rw [hall]; exact x8 (x8 (x8 (c8 _ _) (c8 _ _)) (c8 _ _)) (c8 _ _)
 obtain ⟨fst, hfst⟩ : ∃ a, a = cell l (off + 0) := ⟨_, rfl⟩
 have VA : fst < 256 := by rw [hfst]; exact c8 _ _
 have hM : mix l off = Ih l off all fst 4 := by rw [hall, hfst]; rfl
 refine fp 51 func227 rfl rfl rfl rfl ?_
 intro _ hret
 refine aU ?_
 refine aC Kr 16 rfl ?_; intro VF ex VG
 obtain ⟨F,B⟩ := ba ex F B
 refine zm [0] ?_
 refine my 1 rfl (aw rfl rfl Tn.u Kr (j := 0) Om Om) ?_
 refine my 2 rfl (af rfl Tn.u rfl (qO B (k := off + 0) Om)) ?_
 refine zm [3] ?_
 refine my 4 rfl (aw rfl rfl Tn.u Kr (j := 1) Om Om) ?_
 refine my 5 rfl (af rfl Tn.u rfl (qO B (k := off + 1) Om)) ?_
 refine my 6 rfl (bI rfl rfl ((bE (c8 _ _) (c8 _ _)).2.2)) ?_
 refine zm [7] ?_
 refine my 8 rfl (aw rfl rfl Tn.u Kr (j := 2) Om Om) ?_
 refine my 9 rfl (af rfl Tn.u rfl (qO B (k := off + 2) Om)) ?_
 refine my 10 rfl (bI rfl rfl ((bE (x8 (c8 _ _) (c8 _ _)) (c8 _ _)).2.2)) ?_
 refine zm [11] ?_
 refine my 12 rfl (aw rfl rfl Tn.u Kr (j := 3) Om Om) ?_
 refine my 13 rfl (af rfl Tn.u rfl (qO B (k := off + 3) Om)) ?_
 refine my 14 rfl (bI rfl rfl ((bE (x8 (x8 (c8 _ _) (c8 _ _)) (c8 _ _)) (c8 _ _)).2.2)) ?_
 refine C8 [15] ?_
 refine au 8 ?_
 refine ak (aw rfl rfl Tn.u Kr (j := 0) Om Om) ?_
 refine ak (af rfl Tn.u rfl (qO B (k := off + 0) Om)) ?_
 refine au 9 ?_
 rw [← hall, ← hfst]
 refine az (fun n' L wr => ∃ (i : Nat), L = [(0, .slice (some ⟨g, off, none⟩) 4 c), (2, .int .u8 ((all : Nat) : Int)), (3, .int .u8 ((fst : Nat) : Int)), (24, .int .i64 (i : Int))] ∧ n' = 4 - i ∧ (i ≤ 4 ∧ aA [g] w wr ∧ ao wr g t (cT (Ih l off all fst i)))) _ _ ⟨0, rfl, rfl, Nat.zero_le _, F, B⟩ Ls ?_
 rintro _ n' L wr ⟨i, rfl, rfl, _, F, B⟩ Vz
 refine aU ?_
 refine al rfl (fun VB => ?_) (fun VB => ?_)
 ·obtain ⟨M, hMM⟩ : ∃ M, M = Ih l off all fst i := ⟨_, rfl⟩
  have hMl : M.length = l.length := by rw [hMM]; exact mB _ _ _ _ _
  rw [← hMM] at B
  obtain ⟨nx, hnx⟩ : ∃ n, n = (if i < 3 then cell M (off + (i + 1)) else fst) := ⟨_, rfl⟩
  have Vy : nx < 256 := by rw [hnx]; split; exact c8 _ _; exact VA
  refine aU ?_
  refine al rfl (fun VC => ?_) (fun VC => ?_)
  ·refine au 4 ?_
   refine ak (aw rfl rfl Tn.u Kr (j := i + 1) Om Om) ?_
   refine ak (af rfl Tn.u rfl (show _ = some (.int .u8 ((nx : Nat) : Int)) by rw [hnx, if_pos Om]; exact qO B (k := off + (i + 1)) Om)) ?_
   refine aU ?_
   refine bS [(15, [g])] Kr 16 rfl ?_; intro VD ex VE
   obtain ⟨F,B⟩ := ba ex F B
   refine fO [(0, []), (1, [])] ?_
   refine aU ?_
   refine iz 2 [] rfl (fun wr (cr : aA ([]) _ wr) => aw rfl rfl Tn.u Kr (j := i) Om Om) ?_
   refine iz 3 [] rfl (fun wr (cr : aA ([]) _ wr) => af rfl Tn.u rfl (qO (B.bo cr) (k := off + i) Om)) ?_
   refine fO [(4, []), (5, []), (6, [])] ?_
   refine aU ?_
   refine iz 7 [] rfl (fun wr (cr : aA ([]) _ wr) => aw rfl rfl Tn.u Kr (j := i) Om Om) ?_
   refine iz 8 [] rfl (fun wr (cr : aA ([]) _ wr) => af rfl Tn.u rfl (qO (B.bo cr) (k := off + i) Om)) ?_
   refine fO [(9, [])] ?_
   refine aU ?_
   refine iz 10 [] rfl (fun wr (cr : aA ([]) _ wr) => bI rfl rfl ((bE (c8 _ _) Vy).2.2)) ?_
   refine cy 11 Kr ?_; refine Ai rfl func252 rfl rfl rfl (jl (cell M (off + i) ^^^ nx) 2 (x8 (c8 _ _) Vy) Om _) rfl ?_
   rintro e w8 ⟨rfl, Vx, ex⟩
   refine ⟨_, rfl, aA.of ex _, ?_⟩
   obtain ⟨F,B⟩ := ba ex F B
   refine iz 12 [] rfl (fun wr (cr : aA ([]) _ wr) => bI rfl rfl ((bE Vw Vx).2.2)) ?_
   refine iz 13 [] rfl (fun wr (cr : aA ([]) _ wr) => bI rfl rfl ((bE (c8 _ _) (x8 Vw Vx)).2.2)) ?_
   refine iz 14 [] rfl (fun wr (cr : aA ([]) _ wr) => aw rfl rfl Tn.u Kr (j := i) Om Om) ?_
   refine cy 15 Kr ?_; refine cZ rfl (av rfl rfl rfl Kr B (by rw [aW]; omega)) rfl ?_
   rintro _ w9 ⟨rfl, D, cg⟩
   have ex := aA.one cg
   refine ⟨ex, ?_⟩
   clear cg; rw [← fH (x8 (c8 _ _) (x8 Vw Vx)), fI] at D
   replace F := F.bo ex
   refine cF Kr ?_
   refine au 7 ?_
   refine ae ?_
   refine Vz _ _ ⟨i + 1, rfl, rfl, by omega, F, (by rw [Ih, ← hMM]; unfold Pt; rw [← hnx]; exact D)⟩ Om Ls
  ·refine au 2 ?_
   have hx : fst = nx := by rw [hnx, if_neg Om]
   rw [hx]
   refine bS [(15, [g])] Kr 16 rfl ?_; intro VD ex VE
   obtain ⟨F,B⟩ := ba ex F B
   refine fO [(0, []), (1, [])] ?_
   refine aU ?_
   refine iz 2 [] rfl (fun wr (cr : aA ([]) _ wr) => aw rfl rfl Tn.u Kr (j := i) Om Om) ?_
   refine iz 3 [] rfl (fun wr (cr : aA ([]) _ wr) => af rfl Tn.u rfl (qO (B.bo cr) (k := off + i) Om)) ?_
   refine fO [(4, []), (5, []), (6, [])] ?_
   refine aU ?_
   refine iz 7 [] rfl (fun wr (cr : aA ([]) _ wr) => aw rfl rfl Tn.u Kr (j := i) Om Om) ?_
   refine iz 8 [] rfl (fun wr (cr : aA ([]) _ wr) => af rfl Tn.u rfl (qO (B.bo cr) (k := off + i) Om)) ?_
   refine fO [(9, [])] ?_
   refine aU ?_
   refine iz 10 [] rfl (fun wr (cr : aA ([]) _ wr) => bI rfl rfl ((bE (c8 _ _) Vy).2.2)) ?_
   refine cy 11 Kr ?_; refine Ai rfl func252 rfl rfl rfl (jl (cell M (off + i) ^^^ nx) 2 (x8 (c8 _ _) Vy) Om _) rfl ?_
   rintro e w8 ⟨rfl, Vx, ex⟩
   refine ⟨_, rfl, aA.of ex _, ?_⟩
   obtain ⟨F,B⟩ := ba ex F B
   refine iz 12 [] rfl (fun wr (cr : aA ([]) _ wr) => bI rfl rfl ((bE Vw Vx).2.2)) ?_
   refine iz 13 [] rfl (fun wr (cr : aA ([]) _ wr) => bI rfl rfl ((bE (c8 _ _) (x8 Vw Vx)).2.2)) ?_
   refine iz 14 [] rfl (fun wr (cr : aA ([]) _ wr) => aw rfl rfl Tn.u Kr (j := i) Om Om) ?_
   refine cy 15 Kr ?_; refine cZ rfl (av rfl rfl rfl Kr B (by rw [aW]; omega)) rfl ?_
   rintro _ w9 ⟨rfl, D, cg⟩
   have ex := aA.one cg
   refine ⟨ex, ?_⟩
   clear cg; rw [← fH (x8 (c8 _ _) (x8 Vw Vx)), fI] at D
   replace F := F.bo ex
   refine cF Kr ?_
   refine au 7 ?_
   refine ae ?_
   refine Vz _ _ ⟨i + 1, rfl, rfl, by omega, F, (by rw [Ih, ← hMM]; unfold Pt; rw [← hnx]; exact D)⟩ Om Ls
 ·refine aU ?_
  refine hret (.inr rfl) ?_
  obtain rfl : i = 4 := by omega
  rw [← hM] at B
  exact ⟨rfl, B, F⟩
end
section
open Go.RowKit Tryz
attribute [local irreducible] Y Ef WL WC WK WQ WM cE WN WF dc WJ gJ
open Ae
namespace Ae
def Kl (T : Lb) (t : Lb) (f : Nat) : List UInt8 := [UInt8.ofNat (cell T (cell t 1) ^^^ f), UInt8.ofNat (cell T (cell t 2)), UInt8.ofNat (cell T (cell t 3)), UInt8.ofNat (cell T (cell t 0))]
def Cb (T w : Lb) (f : Nat) : List UInt8 := if w.length % 16 = 0 then Kl T (w.drop (w.length - 4)) f else w.drop (w.length - 4)
def xk (t w : Lb) : Nat → List UInt8
 | 0 => t
 | j + 1 => (xk t w j).set j (UInt8.ofNat (cell (xk t w j) j ^^^ cell w (w.length - 16 + j)))
def kl (T key : Lb) : Nat → List UInt8 × Nat
 | 0 => (key, 1)
 | i + 1 => ((kl T key i).1 ++ xk (Cb T (kl T key i).1 (kl T key i).2) (kl T key i).1 4, if (kl T key i).1.length % 16 = 0 then tm (kl T key i).2 2 else (kl T key i).2)
theorem ow (t w : Lb) : ∀ j, (xk t w j).length = t.length
 | 0 => rfl
 | j + 1 => by rw [xk, List.length_set, ow t w j]
theorem qQ {T w : Lb} {f : Nat} (h : 4 ≤ w.length) : (Cb T w f).length = 4 := by
 unfold Cb; split
 ·rfl
 ·rw [List.length_drop]; omega
theorem mG {T key : Lb} (hk : key.length = 16) : ∀ i, (kl T key i).1.length = 16 + 4 * i
  | 0 => hk
  | i + 1 => by
    have := mG (T := T) hk i
    rw [kl, List.length_append, ow, qQ Om]; omega
def keys (T key : Lb) : List UInt8 := (kl T key 40).1
theorem xy {T key : Lb} (hk : key.length = 16) : (keys T key).length = 176 := mG hk 40
end Ae
theorem jW {w : World} {g n k : Nat} {xs : Lb} (H : Bs w (some ⟨g, 0, none⟩) n xs) (h : k < n) : w.cell? ⟨g, 0 + k, none⟩ = some (.int .u8 ((Ae.cell xs k : Nat) : Int)) := by
 obtain ⟨b', o', e, _, hc⟩ := H.get h
 injection e with e
 injection e with e1 e2 _
 subst e1; subst e2
 rw [hc]; unfold Ae.cell
 rw [List.getD_eq_getElem?_getD, List.getElem?_eq_getElem (by rw [H.1]; exact h)]
 try rfl
 try simp [bv]
theorem wP {w : World} {g k : Nat} {t : TypeId} {l : Lb} (B : ao w g t (cT l)) (h : k < l.length) : w.cell? ⟨g, 0 + k, none⟩ = some (.int .u8 ((Ae.cell l k : Nat) : Int)) := by rw [Nat.zero_add]; exact qO B h
theorem EH (T t : Lb) (f : Nat) (hf : f < 256) : (#[.int .u8 ((cell T (cell t 1) ^^^ f : Nat) : Int), .int .u8 ((cell T (cell t 2) : Nat) : Int), .int .u8 ((cell T (cell t 3) : Nat) : Int), .int .u8 ((cell T (cell t 0) : Nat) : Int)] : Array Value) = cT (Kl T t f) := by
 simp only [cT, Kl, List.map_cons, List.map_nil, bv, fH (x8 (c8 _ _) hf), fH (c8 _ _)]
theorem LI (m : Nat) : ((m : Nat) : Int).tmod 16 = ((m % 16 : Nat) : Int) := by rw [Int.tmod_eq_emod_of_nonneg Om]; omega
theorem vU {A : Oa} {c : Nat} {key T : Lb} (w : World) (HA : Bs w A 16 key) (hT : T.length = 256) :
  Ct 226 #[.slice A 16 c, .agg (cT T)] w fun e w' => ∃ A' c', e = .returned (.slice A' 176 c') ∧ Row w' w.heap.size 5 A' 176 c' ((keys T key).map bv) ∧ Ext w w' := by
 have E := Ext.refl w
 refine ai 75 func226 rfl rfl rfl rfl ?_
 intro _ hret
 refine aU ?_
 intro Vy Vx B3 _ ex
 obtain ⟨HA,E⟩ := ba ex HA E
 have VB := HA; have E0 := E; have VC := B3
 refine aU ?_
 refine ag (aK (z := .int .u8 0) Tn.u Kr rfl rfl rfl rfl rfl) rfl ?_
 rintro _ w1 ⟨g1, rfl, D1, VD, ex⟩
 replace HA := HA.ext ex
 have X1 := ex; have R1 : Row w1 Vy.heap.size 5 (some ⟨g1, 0, none⟩) 0 0 [] := Row.new D1 VD rfl (by unfold maxLen; omega)
 refine aU ?_
 refine ag (bd rfl rfl cB R1 HA.2 (by rw [List.length_map, HA.1]) aM Om Om X1.size) rfl ?_
 rintro _ _ ⟨A2, c2, rfl, R2, be, gr, hl⟩
 have X2 := X1.trans be; rw [List.nil_append] at R2
 refine aU ?_
 refine az (fun n' L wr => ∃ (i m c5 : Nat) (A5 : Oa), L = [(3, .pointer (some ⟨Vx, 0, none⟩)), (5, .slice A5 m c5), (6, .int .u8 (((kl T key i).2 : Nat) : Int))] ∧ n' = 40 - i ∧ (i ≤ 40 ∧ m = 16 + 4 * i ∧ (kl T key i).2 < 256 ∧ Ext Vy wr ∧ Row wr Vy.heap.size 5 A5 m c5 ((kl T key i).1.map bv))) _ _ ⟨0, 0 + 16, c2, A2, rfl, rfl, Nat.zero_le _, rfl, (by show 1 < 256; omega), X2, R2⟩ Ls ?_
 rintro _ n' L wr ⟨i, m, c5, A5, rfl, rfl, _, _, hf, X, R⟩ VE
 refine aU ?_
 refine al rfl (fun VF => ?_) (fun VF => ?_)
 ·have hWl := mG (T := T) VB.1 i
  obtain ⟨W, hW⟩ : ∃ W, W = (kl T key i).1 := ⟨_, rfl⟩
  rw [← hW] at R hWl
  have hmW : m = W.length := by omega
  have BT : ao wr Vx 265 (cT T) := VC.ext X
  obtain ⟨ts, hts⟩ : ∃ t, t = W.drop (m - 4) := ⟨_, rfl⟩
  refine aU ?_
  refine ag (aK (z := .int .u8 0) Tn.u Kr rfl rfl rfl rfl rfl) rfl ?_
  rintro _ w4 ⟨g4, rfl, D4, VG, ex⟩
  have Y4 := ex; have R4 : Row w4 wr.heap.size 5 (some ⟨g4, 0, none⟩) 0 0 [] := Row.new D4 VG rfl (by unfold maxLen; omega)
  refine au 4 ?_
  refine ak (nO (s := 1) rfl rfl Tn.u Kr (j := m - 4) Om Om) ?_
  have HC := (R.ext Y4).bs.j6 (j := m - 4) Om R.cap
  rw [← hts] at HC
  refine ag (bd rfl rfl cB R4 HC.2 (by rw [List.length_map, HC.1]) aM Om Om Y4.size) rfl ?_
  rintro _ _ ⟨_, c6, rfl, R6, be, gr, hl⟩
  have Y5 := Y4.trans be; rw [List.nil_append] at R6; replace R6 := R6.congr (n' := 0 + (m - (m - 4))) rfl rfl; obtain ⟨gt, _, rfl, _⟩ := R6.get (i := 0) Om; have H6 := R6.bs; have Vw := BT.ext Y5
  refine au 8 ?_
  refine ak (cK rfl rfl Om (show _ = ((m % 16 : Nat) : Int) from LI m)) ?_
  refine aU ?_
  refine uD (fun L Vz => ∃ (gq nq cq fq : Nat), L = [(3, .pointer (some ⟨Vx, 0, none⟩)), (5, .slice A5 m c5), (6, .int .u8 ((fq : Nat) : Int)), (7, .slice (some ⟨gq, 0, none⟩) nq cq)] ∧ (nq = 4 ∧ fq = (kl T key (i + 1)).2 ∧ fq < 256 ∧ Ext wr Vz ∧ Row Vz wr.heap.size 5 (some ⟨gq, 0, none⟩) nq cq ((Cb T W (kl T key i).2).map bv))) ?_ ?_
  ·skip
   refine al rfl (fun VH => ?_) (fun VH => ?_)
   ·refine aU ?_
    refine aC Kr 24 rfl ?_; intro VX ex VY
    obtain ⟨Y5,H6,Vw⟩ := bC ex Y5 H6 Vw
    refine zm [0] ?_
    refine my 1 rfl (aw rfl rfl Tn.u Kr (j := 1) Om Om) ?_
    refine my 2 rfl (af rfl Tn.u rfl (jW H6 (k := 1) Om)) ?_
    refine my 3 rfl (bG rfl rfl Tn.u Kr (j := cell ts 1) Om (by have := c8 ts 1; omega)) ?_
    refine my 4 rfl (af rfl Tn.u rfl (wP Vw (k := cell ts 1) (by rw [hT]; exact c8 _ _))) ?_
    refine zm [5] ?_
    refine my 6 rfl (bI rfl rfl ((bE (c8 _ _) hf).2.2)) ?_
    refine zm [7] ?_
    refine my 8 rfl (aw rfl rfl Tn.u Kr (j := 2) Om Om) ?_
    refine my 9 rfl (af rfl Tn.u rfl (jW H6 (k := 2) Om)) ?_
    refine my 10 rfl (bG rfl rfl Tn.u Kr (j := cell ts 2) Om (by have := c8 ts 2; omega)) ?_
    refine my 11 rfl (af rfl Tn.u rfl (wP Vw (k := cell ts 2) (by rw [hT]; exact c8 _ _))) ?_
    refine zm [12] ?_
    refine my 13 rfl (aw rfl rfl Tn.u Kr (j := 3) Om Om) ?_
    refine my 14 rfl (af rfl Tn.u rfl (jW H6 (k := 3) Om)) ?_
    refine my 15 rfl (bG rfl rfl Tn.u Kr (j := cell ts 3) Om (by have := c8 ts 3; omega)) ?_
    refine my 16 rfl (af rfl Tn.u rfl (wP Vw (k := cell ts 3) (by rw [hT]; exact c8 _ _))) ?_
    refine zm [17] ?_
    refine my 18 rfl (aw rfl rfl Tn.u Kr (j := 0) Om Om) ?_
    refine my 19 rfl (af rfl Tn.u rfl (jW H6 (k := 0) Om)) ?_
    refine my 20 rfl (bG rfl rfl Tn.u Kr (j := cell ts 0) Om (by have := c8 ts 0; omega)) ?_
    refine my 21 rfl (af rfl Tn.u rfl (wP Vw (k := cell ts 0) (by rw [hT]; exact c8 _ _))) ?_
    have VZ := Y5.size
    refine bk 22 Kr ?_; refine bH rfl (aK (z := .int .u8 0) Tn.u Kr rfl rfl rfl rfl rfl) rfl ?_
    rintro _ _ ⟨g6, rfl, D6, _, ex⟩
    refine ⟨.inr ex, ?_⟩
    replace Y5 := Y5.ext ex
    have VA := D6.congr (EH T ts _ hf)
    refine zm [23] ?_
    refine aB func252 rfl (jl (kl T key i).2 2 hf Om _) ?_
    rintro e w7 ⟨rfl, VI, ex⟩
    obtain ⟨Y5,VA⟩ := ba ex Y5 VA
    refine au 3 ?_
    have hn : Cb T W (kl T key i).2 = Kl T ts (kl T key i).2 := by unfold Cb; rw [if_pos Om, ← hmW, ← hts]
    have he : tm (kl T key i).2 2 = (kl T key (i + 1)).2 := by rw [kl]; exact (if_pos (by rw [← hW]; omega)).symm
    have RT : Row w7 wr.heap.size 5 (some ⟨g6, 0, none⟩) 4 4 ((Cb T W (kl T key i).2).map bv) := by
     rw [hn]
     have := Row.new (base := wr.heap.size) VA Om (n := 4) rfl (by unfold maxLen; omega)
     simpa [cT] using this
    exact kZ _ ⟨g6, 4, 4, tm (kl T key i).2 2, rfl, rfl, he, VI, Y5, RT⟩ Ls
   ·refine aU ?_
    have hn : Cb T W (kl T key i).2 = ts := by unfold Cb; rw [if_neg Om, ← hmW, ← hts]
    have he : (kl T key i).2 = (kl T key (i + 1)).2 := by rw [kl]; exact (if_neg (by rw [← hW]; omega)).symm
    exact kZ _ ⟨gt, 0 + (m - (m - 4)), c6, (kl T key i).2, rfl, Om, he, hf, Y5, (by rw [hn]; exact R6)⟩ Ls
  rintro L Vz ⟨gq, nq, cq, fq, rfl, _, hfq, VJ, Y, RT⟩
  subst hfq
  refine aU ?_
  refine az (fun n' L ws => ∃ (j : Nat), L = [(3, .pointer (some ⟨Vx, 0, none⟩)), (5, .slice A5 m c5), (6, .int .u8 (((kl T key (i + 1)).2 : Nat) : Int)), (7, .slice (some ⟨gq, 0, none⟩) nq cq), (52, .int .i64 (nq : Int)), (53, .int .i64 (j : Int)), (51, .slice (some ⟨gq, 0, none⟩) nq cq)] ∧ n' = 4 - j ∧ (j ≤ 4 ∧ Ext wr ws ∧ Row ws wr.heap.size 5 (some ⟨gq, 0, none⟩) nq cq ((xk (Cb T W (kl T key i).2) W j).map bv))) _ _ ⟨0, rfl, rfl, Nat.zero_le _, Y, RT⟩ Ls ?_
  rintro _ n' L ws ⟨j, rfl, rfl, _, Z, RJ⟩ VK
  refine aU ?_
  refine al rfl (fun VL => ?_) (fun VL => ?_)
  ·refine aU ?_
   obtain ⟨V, hV⟩ : ∃ V, V = xk (Cb T W (kl T key i).2) W j := ⟨_, rfl⟩
   rw [← hV] at RJ
   have HJ := RJ.bs
   have HW := (R.ext Z).bs
   obtain ⟨gw, _, rfl, _⟩ := R.get (i := 0) Om
   refine aC Kr 15 rfl ?_; intro VM ex VN
   obtain ⟨Z,RJ,HJ,HW⟩ := bO ex Z RJ HJ HW
   refine zm [0, 1] ?_
   refine dk 2 rfl (fun _ => aw rfl rfl Tn.u Kr (j := j) Om Om) ?_
   refine my 3 rfl (af rfl Tn.u rfl (jW HJ (k := j) Om)) ?_
   refine zm [4, 5, 6, 7, 8, 9] ?_
   refine dk 10 rfl (fun _ => aw rfl rfl Tn.u Kr (j := m - 16 + j) Om Om) ?_
   refine my 11 rfl (af rfl Tn.u rfl (jW HW (k := m - 16 + j) Om)) ?_
   refine dk 12 rfl (fun _ => bI rfl rfl ((bE (c8 _ _) (c8 _ _)).2.2)) ?_
   refine dk 13 rfl (fun _ => aw rfl rfl Tn.u Kr (j := j) Om Om) ?_
   refine bk 14 Kr ?_; refine bH rfl (lC rfl rfl rfl Kr RJ Om) rfl ?_
   rintro _ VO ⟨rfl, VP, cg⟩
   refine ⟨.inl rfl, ?_⟩
   have VQ := Z.aE cg (RJ.lt).1; have VR : Row VO wr.heap.size 5 (some ⟨gq, 0, none⟩) nq cq ((V.set j (UInt8.ofNat (cell V j ^^^ cell W (m - 16 + j)))).map bv) := (by rw [List.map_set, bv, fH (x8 (c8 _ _) (c8 _ _))]; exact VP)
   refine au 8 ?_
   refine ae ?_
   refine VK _ _ ⟨j + 1, rfl, rfl, by omega, VQ, (by rw [xk, ← hV, ← hmW]; exact VR)⟩ Om Ls
  ·obtain rfl : j = 4 := by omega
   have e1 : (kl T key (i + 1)).1 = W ++ xk (Cb T W (kl T key i).2) W 4 := by rw [hW]; rfl
   have hxl : (xk (Cb T W (kl T key i).2) W 4).length = 4 := by rw [ow, qQ Om]
   refine aU ?_
   refine ag (bd rfl rfl cB (R.ext Z) RJ.at (by rw [List.length_map, hxl]; omega) aM Om Om (X.ext Z).size) rfl ?_
   rintro _ _ ⟨VS, VT, rfl, VU, be, gr, hl⟩
   have VV := (X.ext Z).trans be; have VW := VU.cat
   refine au 3 ?_
   refine ae ?_
   refine VE _ _ ⟨i + 1, m + nq, VT, VS, rfl, rfl, by omega, by omega, VJ, VV, (by rw [e1]; exact VW)⟩ Om Ls
 ·refine aU ?_
  refine hret rfl ?_
  obtain rfl : i = 40 := by omega
  obtain rfl : m = 176 := by omega
  exact ⟨A5, c5, rfl, R.lower E0.size, E0.ext X⟩
end
end Go.Proofs.YtgfafidlkldeaaaGreat
