/- The field's Inv and Root, the reference's Pow and Inv: what each hands back. -/
import Derived.Test.YtgfafidlkldeaaaGreatFieldL
import Derived.Test.YtgfafidlkldeaaaGreatKdfB
import Derived.Test.YtgfafidlkldeaaaGreatAu
set_option linter.unusedVariables false
set_option linter.unusedSimpArgs false
set_option maxHeartbeats 4000000
set_option maxRecDepth 4000
namespace Go.Proofs.YtgfafidlkldeaaaGreat
section
section
open Go.RowKit
attribute [local irreducible] Y Ef WL WC WK WQ WM cE
def bt (f : Nat → Nat) : Array Value := aN .u8 (Fp.fn 32 f)
theorem IW (f : Nat → Nat) : (bt f).size = 32 := by rw [bt, bf, Fp.dX]
theorem Np (f : Nat → Nat) {i j : Nat} (hi : i = j) (h : j < 32) : (bt f)[i]? = some (.int .u8 (f j : Nat)) := by
 subst hi; rw [bt, dw _ _ _ (by rw [Fp.dX]; exact h), Fp.qJ f h]
theorem LS (f : Nat → Nat) (i x : Nat) : (bt f).setIfInBounds i (.int .u8 (x : Int)) = bt (fun j => if j = i then x else f j) := by
 rw [bt, fC, Fp.xX, bt]
theorem na {f g : Nat → Nat} (h : ∀ j, j < 32 → f j = g j) : bt f = bt g := by unfold bt; rw [Fp.nd h]
theorem bt_le (x : Nat) : bt (fun j => x / 256 ^ j % 256) = cT (Fp.le 32 x) := by
 unfold bt aN cT Fp.fn Fp.le
 rw [List.map_map, List.map_map]
 congr 1
 apply List.map_congr_left
 intro j _
 simp only [Function.comp_apply, iv, bv, UInt8.toNat_ofNat']
 congr 2
 omega
theorem Pk (x k : Nat) (hk : k ≤ 64) : (x : Int) / 2 ^ (min (k : Int).toNat IntKind.u64.bits) = ((x / 2 ^ k : Nat) : Int) := by
 have e : min (k : Int).toNat IntKind.u64.bits = k := by
  have : IntKind.u64.bits = 64 := rfl
  omega
 rw [e, show (2 : Int) ^ k = ((2 ^ k : Nat) : Int) from by rw [Int.natCast_pow]; rfl]
 exact (Int.natCast_ediv _ _).symm
theorem Qf (b s : Nat) (hs : s < 8) (hb : b * 2 ^ s < 256) : IntKind.u8.wrap ((b : Int) * 2 ^ (min (s : Int).toNat IntKind.u8.bits)) = ((b * 2 ^ s : Nat) : Int) := by
 have e : min (s : Int).toNat IntKind.u8.bits = s := by
  have : IntKind.u8.bits = 8 := rfl
  omega
 rw [e, show (2 : Int) ^ s = ((2 ^ s : Nat) : Int) from by rw [Int.natCast_pow]; rfl, ← Int.natCast_mul, IntKind.wrap_u8']
 omega
theorem QN (old b s : Nat) (ho : old < 2 ^ s) (h : old + b * 2 ^ s < 256) : bits .or .u8 (old : Int) ((b * 2 ^ s : Nat) : Int) = ((old + b * 2 ^ s : Nat) : Int) := by
 have h2 := (bE (p := old) (q := b * 2 ^ s) Om Om).2.1
 rw [h2, Nat.or_comm, Nat.mul_comm b, ← Nat.two_pow_add_eq_or_of_lt ho, Nat.add_comm]
theorem jB {cs : Array Value} {a : Nat} (ha : Fe cs a) (w : World) :
  Ct 155 #[.agg cs] w fun e w' => ∃ g, e = .returned (.slice (some ⟨g, 0, none⟩) 32 32) ∧ w.heap.size ≤ g ∧ ao w' g 5 (cT (Fp.le 32 a)) ∧ Ext w w' := by
 have hal := ha.lt
 obtain ⟨f, rfl, hf, hfa⟩ := ha
 refine ai 44 Tryz.func155 rfl rfl rfl rfl ?_
 intro _ hret
 refine aU ?_
 intro w1 g1 (B1 : ao _ _ _ (fe f)) VA ex
 have E1 := ex
 refine aU ?_
 refine aB Tryz.func209 rfl (lv f _ hf) ?_
 rintro e _ ⟨rfl, ex⟩
 refine au 1 ?_
 rw [hfa]; have E2 := E1.ext ex; have C1 := B1.ext ex
 refine ag (ah rfl rfl (by rw [aj]; kernel_rfl) C1 (by rw [aj, aj]) (bh _)) rfl ?_
 rintro _ _ ⟨rfl, B3, cg⟩
 have E3 := E2.aE cg VA
 refine aU ?_
 refine ag (du (n := 32) (z := .int .u8 0) (bytes := 1) rfl rfl Tn.u Kr rfl rfl rfl rfl Om Om) rfl ?_
 rintro _ w4 ⟨g2, rfl, B4, VB, ex⟩
 have E4 := E3.ext ex; have C3 := B3.ext ex; have Vw : w.heap.size ≤ g2 := Nat.le_trans E3.size VB; replace B4 : ao w4 g2 5 (bt (fun j => a % 2 ^ (51 * 0) / 256 ^ j % 256)) := B4.congr (by rw [na (g := fun _ => 0) fun j _ => by rw [Nat.mul_zero, Nat.pow_zero, Nat.mod_one, Nat.zero_div]]; rfl)
 refine aU ?_
 refine az (fun n' L wr => ∃ i : Nat, L = [(3, .slice (some ⟨g2, 0, none⟩) 32 32), (12, .agg (fe (Fp.fx a))), (13, .int .i64 (i : Int))] ∧ n' = 5 - i ∧ (i ≤ 5 ∧ Ext w wr ∧ ao wr g2 5 (bt (fun j => a % 2 ^ (51 * i) / 256 ^ j % 256)))) _ _ ⟨0, rfl, rfl, by omega, E4, B4⟩ Ls ?_
 rintro _ n' L wr ⟨i, rfl, rfl, _, F, C2⟩ VC
 refine aU ?_
 refine al rfl (fun VD => ?_) (fun VD => ?_)
 ·refine au 7 ?_
  refine ak (mW rfl rfl Tn.u Tn.u rfl Kr rfl Om (dy _ rfl Om)) ?_
  refine au 7 ?_
  refine ak (cD rfl rfl (bj (n := 51 * i) Om Om)) ?_
  refine aU ?_
  refine az (fun n' L wq => ∃ k : Nat, L = [(3, .slice (some ⟨g2, 0, none⟩) 32 32), (5, .int .u64 ((Fp.fx a i : Nat) : Int)), (6, .int .i64 ((51 * i : Nat) : Int)), (12, .agg (fe (Fp.fx a))), (13, .int .i64 (i : Int)), (19, .int .i64 (k : Int))] ∧ n' = 51 - k ∧ (k ≤ 51 ∧ Ext w wq ∧ ao wq g2 5 (bt (fun j => a % 2 ^ (51 * i + k) / 256 ^ j % 256)))) _ _ ⟨0, rfl, rfl, by omega, F, C2⟩ Ls ?_
  rintro _ n' L wq ⟨k, rfl, rfl, _, G, K2⟩ VE
  refine aU ?_
  refine al rfl (fun VF => ?_) (fun VF => ?_)
  ·refine aU ?_
   obtain ⟨T, hT⟩ : ∃ T, T = 51 * i + k := ⟨_, rfl⟩
   rw [← hT] at K2
   have hTl : T < 255 := by omega
   have hlim := Fp.Bi a i
   have hx := Nat.mod_lt a (Nat.pow_pos (n := T) (show 0 < 2 by omega))
   have hbit := Fp.Ic a i k Om
   rw [← hT] at hbit
   obtain ⟨Vx, Vy⟩ : ∃ b, b = Fp.fx a i / 2 ^ k % 2 := ⟨_, rfl⟩
   have Vz : Vx ≤ 1 := by omega
   have hlt := Fp.zY hx; have VI := Fp.AU T
   have hm : Vx * 2 ^ (T % 8) ≤ 1 * 2 ^ (T % 8) := Nat.mul_le_mul_right _ Vz
   have hdl : Fp.fx a i / 2 ^ k < 18446744073709551616 := Nat.lt_of_le_of_lt (Nat.div_le_self _ _) Om
   refine aC Kr 20 rfl ?_; intro VG ex VH
   replace G := G.ext ex; replace K2 := K2.ext ex
   refine zm [0, 1, 2] ?_
   refine dk 3 rfl (fun _ => aO rfl rfl (bj (n := T) Om Om)) ?_
   refine dk 4 rfl (fun _ => dr rfl rfl Om (show IntKind.i64.wrap ((T : Int).tdiv 8) = ((T / 8 : Nat) : Int) from bj rfl Om)) ?_
   refine zm [5] ?_
   refine my 6 rfl (af rfl Tn.u rfl (K2.get (v := .int .u8 ((a % 2 ^ T / 256 ^ (T / 8) : Nat) : Int)) (by rw [Nat.zero_add, Np _ rfl Om, Nat.mod_eq_of_lt (a := a % 2 ^ T / 256 ^ (T / 8)) Om]))) ?_
   refine zm [7, 8] ?_
   refine dk 9 rfl (fun _ => bZ rfl rfl Om (Pk _ k Om)) ?_
   refine dk 10 rfl (fun _ => cM rfl rfl (show bits .and .u64 ((Fp.fx a i / 2 ^ k : Nat) : Int) 1 = (Vx : Int) by rw [Vy]; exact Jw _ hdl)) ?_
   refine my 11 rfl (bg rfl Tn.u Tn.u (IntWalk.u8_in _ ⟨by omega, by omega⟩)) ?_
   refine zm [12, 13] ?_
   refine dk 14 rfl (fun _ => aO rfl rfl (bj (n := T) Om Om)) ?_
   refine dk 15 rfl (fun _ => cK rfl rfl Om (show ((T : Int).tmod 8 = ((T % 8 : Nat) : Int)) from rfl)) ?_
   refine dk 16 rfl (fun _ => fk rfl rfl Om (Qf Vx (T % 8) Om Om)) ?_
   refine dk 17 rfl (fun _ => iH rfl rfl (QN _ _ _ hlt Om)) ?_
   refine zm [18] ?_
   refine bk 19 Kr ?_; refine bH rfl (av rfl rfl rfl Kr K2 (by rw [IW]; omega)) rfl ?_
   rintro _ _ ⟨rfl, B5, cg⟩
   refine ⟨.inl rfl, ?_⟩
   rw [Nat.zero_add, LS] at B5; have G5 := G.aE cg Vw
   refine au 8 ?_
   refine ae ?_
   refine VE _ _ ⟨k + 1, rfl, rfl, by omega, G5, B5.congr (na fun j _ => by
    rw [show 51 * i + (k + 1) = T + 1 by omega, Nat.mod_pow_succ, ← hbit, ← Vy, Nat.mul_comm (2 ^ T)]
    exact Fp.GC j hx Vz)⟩ Om Ls
  ·refine au 10 ?_
   refine ae ?_
   refine VC _ _ ⟨i + 1, rfl, rfl, by omega, G, K2.congr (na fun j _ => by rw [show 51 * (i + 1) = 51 * i + k by omega])⟩ Om Ls
 ·refine aU ?_
  refine hret rfl ?_
  obtain rfl : i = 5 := by omega
  refine ⟨g2, rfl, Vw, C2.congr ?_, F⟩
  rw [← bt_le]
  refine na fun j _ => ?_
  rw [Nat.mod_eq_of_lt (show a < 2 ^ (51 * 5) by unfold Fp.p at hal; omega)]
end
section
open Go.RowKit
attribute [local irreducible] Y Ef WL WC WK WQ WM cE
end
section
open Go.RowKit
attribute [local irreducible] Y Ef WL WC WK WQ WM cE
end
section
open Go.RowKit
attribute [local irreducible] Y Ef WL WC WK WQ WM cE
end
end
section
open Go.RowKit Tryz
attribute [local irreducible] Y Ef WL WC WK WQ WM cE
theorem jg {cs : Array Value} {a : Fp.F} (ha : FE cs a) (w : World) :
  Ct 145 #[.agg cs] w fun e w' => ∃ ds, e = .returned (.agg ds) ∧ FE ds (Fp.inv a) ∧ Ext w w' := by
 have hnum : Fp.num (OU 235 127) = Fp.p - 2 := by decide +kernel
 refine aH (s := 5) 6 func145 rfl rfl rfl underlying134 rfl Kr rfl ?_
 intro _ hret
 refine aU ?_
 intro w1 g1 (B1 : ao _ _ _ (cs)) Vy ex
 have E1 := ex
 refine aU ?_
 intro w2 g2 (B2 : ao _ _ _ (fe (fun _ => 0))) Vx ex
 have E2 := E1.ext ex; replace B1 := B1.ext ex; have Vw : w.heap.size ≤ g2 := Nat.le_trans E1.size Vx
 refine aU ?_
 refine aC Kr 4 rfl ?_; intro Vz ex VA
 obtain ⟨B1,B2,E2⟩ := bC ex B1 B2 E2
 refine zm [0] ?_
 refine bD 1 rfl func204 rfl (gN 235 127 _) ?_
 rintro e _ ⟨_, rfl, H3, ex⟩
 obtain ⟨B2,E2⟩ := ba ex B2 E2
 refine aU ?_
 refine bD 2 rfl func203 rfl (ik ha _ 32 32 _ _ H3 Om) ?_
 rintro e _ ⟨ds, rfl, D, ex⟩
 refine aU ?_
 obtain ⟨B2,E2⟩ := ba ex B2 E2
 rw [hnum] at D
 refine bk 3 Kr ?_; refine bH rfl (ah rfl rfl (by rw [D.size]; kernel_rfl) B2 (by rw [aj, D.size]) D.one) rfl ?_
 rintro _ _ ⟨rfl, B5, cg⟩
 refine ⟨.inl rfl, ?_⟩
 have E5 := E2.aE cg Vw
 refine aU ?_
 refine hret rfl B5 D.size ?_
 exact ⟨_, rfl, D, E5⟩
theorem BG {cs : Array Value} {a : Fp.F} (ha : FE cs a) (w : World) :
  Ct 207 #[.agg cs] w fun e w' => ∃ ds, e = .returned (.tuple #[.agg ds, .bool (decide (Fp.ry a))]) ∧ FE ds (if Fp.ry a then Fp.root a else 0) ∧ Ext w w' := by
 have VW : Fp.num (OU 254 15) = Fp.e8 := by decide +kernel
 have VX : Fp.num (OU 251 31) = Fp.lP := by decide +kernel
 have hso := Fp.vz (a := a)
 refine dn (s := 5) 29 func207 rfl rfl rfl underlying134 rfl Kr rfl ?_
 intro _ hret
 refine au 2 ?_
 refine ag (iJ (cs := cs) rfl rfl) rfl ?_
 rintro _ _ ⟨_, rfl, B1, _, ex⟩
 have E1 := ex; have We := B1.lt
 refine ag (cw (Z := fe (fun _ => 0)) Kr) rfl ?_
 rintro _ _ ⟨g2, rfl, B2, Wc, ex⟩
 have E2 := E1.ext ex; replace B1 := B1.ext ex; have Vy : w.heap.size ≤ g2 := Nat.le_trans E1.size Wc
 refine aU ?_
 refine aC Kr 5 rfl ?_; intro Wf ex Wg
 obtain ⟨B1,B2,E2⟩ := bC ex B1 B2 E2
 refine zm [0] ?_
 refine ki 1 3 Kr ?_ ?_
 ·skip
  refine gH rfl func204 rfl rfl rfl (gN 254 15 _) rfl ?_
  rintro e w3 ⟨g3, rfl, H3, ex⟩
  obtain ⟨B1,B2,E2⟩ := bC ex B1 B2 E2
  refine aU ?_
  refine ki 2 3 Kr ?_ ?_
  ·skip
   refine gH rfl func203 rfl rfl rfl (ik ha _ 32 32 _ _ H3 Om) rfl ?_
   rintro e w4 ⟨ds, rfl, D, ex⟩
   refine au 1 ?_
   obtain ⟨B1,B2,E2⟩ := bC ex B1 B2 E2
   rw [VW] at D; replace D : FE ds (Fp.bL a) := D
   have VM := E2; have VY := B2.lt
   refine bk 3 Kr ?_; refine bH rfl (cw (Z := fe (fun _ => 0)) Kr) rfl ?_
   rintro _ w5 ⟨g5, rfl, B5, VZ, ex⟩
   refine ⟨.inr ex, ?_⟩
   obtain ⟨B1,B2,E2⟩ := bC ex B1 B2 E2
   have Vz : w.heap.size ≤ g5 := by have := VM.size; omega
   refine bk 4 Kr ?_; refine bH rfl (ah rfl rfl (by rw [D.size]; kernel_rfl) B5 (by rw [aj, D.size]) D.one) rfl ?_
   rintro _ w6 ⟨rfl, B6, cg⟩
   refine ⟨.inl rfl, ?_⟩
   replace B1 := B1.aE cg Om; replace B2 := B2.aE cg Om; have E6 := E2.aE cg Vz
   refine aU ?_
   refine aC Kr 5 rfl ?_; intro V0 ex V4
   obtain ⟨B1,B2,E6,B6⟩ := bO ex B1 B2 E6 B6
   refine zm [0, 2] ?_
   refine bD 1 rfl func205 rfl (bX D _) ?_
   rintro e w7 ⟨d7, rfl, D7, ex⟩
   obtain ⟨B1,B2,E6,B6⟩ := bO ex B1 B2 E6 B6
   refine aU ?_
   refine bD 3 rfl func242 rfl (eE D7 ha _) ?_
   rintro e w8 ⟨rfl, ex⟩
   obtain ⟨B1,B2,E6,B6⟩ := bO ex B1 B2 E6 B6
   refine zm [4] ?_
   refine bA rfl (fun VF => ?_) (fun VF => ?_)
   ·skip
    have hq : ¬ Fp.bL a * Fp.bL a = a := by simpa using VF
    refine aC Kr 6 rfl ?_; intro V5 ex V6
    obtain ⟨B1,B2,E6,B6⟩ := bO ex B1 B2 E6 B6
    refine zm [0] ?_
    refine bD 1 rfl func143 rfl (de 2 _ Om) ?_
    rintro e w9 ⟨d9, rfl, D9, ex⟩
    obtain ⟨B1,B2,E6,B6⟩ := bO ex B1 B2 E6 B6
    refine aU ?_
    refine bD 2 rfl func204 rfl (gN 251 31 _) ?_
    rintro e V7 ⟨V8, rfl, VN, ex⟩
    obtain ⟨B1,B2,E6,B6⟩ := bO ex B1 B2 E6 B6
    refine aU ?_
    refine bD 3 rfl func203 rfl (ik D9 _ 32 32 _ _ VN Om) ?_
    rintro e V9 ⟨d11, rfl, VL, ex⟩
    refine aU ?_
    obtain ⟨B1,B2,E6,B6⟩ := bO ex B1 B2 E6 B6
    rw [VX, Fp.zp] at VL
    refine bD 4 rfl func144 rfl (bB D VL _) ?_
    rintro e Wa ⟨d12, rfl, Vx, ex⟩
    obtain ⟨B1,B2,E6,B6⟩ := bO ex B1 B2 E6 B6
    refine aU ?_
    refine bk 5 Kr ?_; refine bH rfl (ah rfl rfl (by rw [Vx.size]; kernel_rfl) B6 (by rw [D.size, Vx.size]) Vx.one) rfl ?_
    rintro _ Wb ⟨rfl, VO, cg⟩
    refine ⟨.inl rfl, ?_⟩
    replace B1 := B1.aE cg Om; replace B2 := B2.aE cg Om; replace E6 := E6.aE cg Vz; replace B6 := VO
    refine aU ?_
    refine aC Kr 5 rfl ?_; intro VP ex VQ
    obtain ⟨B1,B2,E6,B6⟩ := bO ex B1 B2 E6 B6
    refine zm [0, 2] ?_
    refine bD 1 rfl func205 rfl (bX Vx _) ?_
    rintro e VR ⟨d14, rfl, VG, ex⟩
    obtain ⟨B1,B2,E6,B6⟩ := bO ex B1 B2 E6 B6
    refine aU ?_
    refine bD 3 rfl func242 rfl (eE VG ha _) ?_
    rintro e VS ⟨rfl, ex⟩
    obtain ⟨B1,B2,E6,B6⟩ := bO ex B1 B2 E6 B6
    refine zm [4] ?_
    refine bA rfl (fun VA => ?_) (fun VA => ?_)
    ·have VE : ¬ (Fp.bL a * Fp.im) * (Fp.bL a * Fp.im) = a := by simpa using VA
     have hns : ¬ Fp.ry a := fun hs => by rcases hso hs with h | h <;> contradiction
     refine au 2 ?_
     refine ak (aq rfl (cells := fe (fun _ => 0)) Kr) ?_
     refine ag (ah rfl rfl Kr B2 rfl (bh _)) rfl ?_
     rintro _ ix ⟨rfl, VH, cg⟩
     have VI := E6.aE cg Vy
     refine aU ?_
     refine hret rfl rfl VH (aj _) ?_
     exact ⟨_, by rw [decide_eq_false hns], by rw [if_neg hns]; exact FE.zero, VI⟩
    ·have VE : (Fp.bL a * Fp.im) * (Fp.bL a * Fp.im) = a := by simpa using VA
     have hns : Fp.ry a := Fp.kf VE
     refine aU ?_
     refine aB func156 rfl (gW Vx _) ?_
     rintro e VT ⟨rfl, ex⟩
     obtain ⟨B1,B2,E6,B6⟩ := bO ex B1 B2 E6 B6
     refine aU ?_
     refine al rfl (fun VB => ?_) (fun VB => ?_)
     ·refine aU ?_
      refine aB func208 rfl (gZ Vx _) ?_
      rintro e VU ⟨d18, rfl, Vw, ex⟩
      obtain ⟨B1,B2,E6,B6⟩ := bO ex B1 B2 E6 B6
      refine au 1 ?_
      refine ag (ah rfl rfl (by rw [Vw.size]; kernel_rfl) B6 (by rw [Vx.size, Vw.size]) Vw.one) rfl ?_
      rintro _ VV ⟨rfl, VJ, cg⟩
      replace B1 := B1.aE cg Om; replace B2 := B2.aE cg Om; replace E6 := E6.aE cg Vz; replace B6 := VJ
      refine au 5 ?_
      refine ag (ah rfl rfl (by rw [Vw.size]; kernel_rfl) B2 (by rw [aj, Vw.size]) Vw.one) rfl ?_
      rintro _ VK ⟨rfl, VC, cg⟩
      have VD := E6.aE cg Vy
      refine aU ?_
      refine hret rfl rfl VC Vw.size ?_
      exact ⟨_, by rw [decide_eq_true hns], by rw [if_pos hns]; exact Vw.congr (by unfold Fp.root; simp only [hq, ↓reduceIte, VB]), VD⟩
     ·refine au 5 ?_
      refine ag (ah rfl rfl (by rw [Vx.size]; kernel_rfl) B2 (by rw [aj, Vx.size]) Vx.one) rfl ?_
      rintro _ VK ⟨rfl, VC, cg⟩
      have VD := E6.aE cg Vy
      refine aU ?_
      refine hret rfl rfl VC Vx.size ?_
      exact ⟨_, by rw [decide_eq_true hns], by rw [if_pos hns]; exact Vx.congr (by unfold Fp.root; simp only [hq, ↓reduceIte, VB]), VD⟩
   ·have hq : Fp.bL a * Fp.bL a = a := by simpa using VF
    refine aU ?_
    refine aC Kr 5 rfl ?_; intro VP ex VQ
    obtain ⟨B1,B2,E6,B6⟩ := bO ex B1 B2 E6 B6
    refine zm [0, 2] ?_
    refine bD 1 rfl func205 rfl (bX D _) ?_
    rintro e VR ⟨d14, rfl, VG, ex⟩
    obtain ⟨B1,B2,E6,B6⟩ := bO ex B1 B2 E6 B6
    refine aU ?_
    refine bD 3 rfl func242 rfl (eE VG ha _) ?_
    rintro e VS ⟨rfl, ex⟩
    obtain ⟨B1,B2,E6,B6⟩ := bO ex B1 B2 E6 B6
    refine zm [4] ?_
    refine bA rfl (fun VA => ?_) (fun VA => ?_)
    ·have VE : ¬ (Fp.bL a) * (Fp.bL a) = a := by simpa using VA
     have hns : ¬ Fp.ry a := fun hs => by rcases hso hs with h | h <;> contradiction
     refine au 2 ?_
     refine ak (aq rfl (cells := fe (fun _ => 0)) Kr) ?_
     refine ag (ah rfl rfl Kr B2 rfl (bh _)) rfl ?_
     rintro _ ix ⟨rfl, VH, cg⟩
     have VI := E6.aE cg Vy
     refine aU ?_
     refine hret rfl rfl VH (aj _) ?_
     exact ⟨_, by rw [decide_eq_false hns], by rw [if_neg hns]; exact FE.zero, VI⟩
    ·have VE : (Fp.bL a) * (Fp.bL a) = a := by simpa using VA
     have hns : Fp.ry a := Fp.kf VE
     refine aU ?_
     refine aB func156 rfl (gW D _) ?_
     rintro e VT ⟨rfl, ex⟩
     obtain ⟨B1,B2,E6,B6⟩ := bO ex B1 B2 E6 B6
     refine aU ?_
     refine al rfl (fun VB => ?_) (fun VB => ?_)
     ·refine aU ?_
      refine aB func208 rfl (gZ D _) ?_
      rintro e VU ⟨d18, rfl, Vw, ex⟩
      obtain ⟨B1,B2,E6,B6⟩ := bO ex B1 B2 E6 B6
      refine au 1 ?_
      refine ag (ah rfl rfl (by rw [Vw.size]; kernel_rfl) B6 (by rw [D.size, Vw.size]) Vw.one) rfl ?_
      rintro _ VV ⟨rfl, VJ, cg⟩
      replace B1 := B1.aE cg Om; replace B2 := B2.aE cg Om; replace E6 := E6.aE cg Vz; replace B6 := VJ
      refine au 5 ?_
      refine ag (ah rfl rfl (by rw [Vw.size]; kernel_rfl) B2 (by rw [aj, Vw.size]) Vw.one) rfl ?_
      rintro _ VK ⟨rfl, VC, cg⟩
      have VD := E6.aE cg Vy
      refine aU ?_
      refine hret rfl rfl VC Vw.size ?_
      exact ⟨_, by rw [decide_eq_true hns], by rw [if_pos hns]; exact Vw.congr (by unfold Fp.root; simp only [hq, ↓reduceIte, VB]), VD⟩
     ·refine au 5 ?_
      refine ag (ah rfl rfl (by rw [D.size]; kernel_rfl) B2 (by rw [aj, D.size]) D.one) rfl ?_
      rintro _ VK ⟨rfl, VC, cg⟩
      have VD := E6.aE cg Vy
      refine aU ?_
      refine hret rfl rfl VC D.size ?_
      exact ⟨_, by rw [decide_eq_true hns], by rw [if_pos hns]; exact D.congr (by unfold Fp.root; simp only [hq, ↓reduceIte, VB]), VD⟩
  ·skip
   have VM := E2; have VY := B2.lt
   refine bH rfl (cw (Z := fe (fun _ => 0)) Kr) rfl ?_
   rintro _ w5 ⟨g5, rfl, B5, VZ, ex⟩
   refine ⟨.inr ex, ?_⟩
   obtain ⟨B1,B2,E2,H3⟩ := bO ex B1 B2 E2 H3
   have Vz : w.heap.size ≤ g5 := by have := VM.size; omega
   refine bD 2 rfl func203 rfl (ik ha _ 32 32 _ _ H3 Om) ?_
   rintro e w4 ⟨ds, rfl, D, ex⟩
   refine au 1 ?_
   obtain ⟨B1,B2,E2,B5⟩ := bO ex B1 B2 E2 B5
   rw [VW] at D; replace D : FE ds (Fp.bL a) := D
   refine bk 4 Kr ?_; refine bH rfl (ah rfl rfl (by rw [D.size]; kernel_rfl) B5 (by rw [aj, D.size]) D.one) rfl ?_
   rintro _ w6 ⟨rfl, B6, cg⟩
   refine ⟨.inl rfl, ?_⟩
   replace B1 := B1.aE cg Om; replace B2 := B2.aE cg Om; have E6 := E2.aE cg Vz
   refine aU ?_
   refine aC Kr 5 rfl ?_; intro V0 ex V4
   obtain ⟨B1,B2,E6,B6⟩ := bO ex B1 B2 E6 B6
   refine zm [0, 2] ?_
   refine bD 1 rfl func205 rfl (bX D _) ?_
   rintro e w7 ⟨d7, rfl, D7, ex⟩
   obtain ⟨B1,B2,E6,B6⟩ := bO ex B1 B2 E6 B6
   refine aU ?_
   refine bD 3 rfl func242 rfl (eE D7 ha _) ?_
   rintro e w8 ⟨rfl, ex⟩
   obtain ⟨B1,B2,E6,B6⟩ := bO ex B1 B2 E6 B6
   refine zm [4] ?_
   refine bA rfl (fun VF => ?_) (fun VF => ?_)
   ·skip
    have hq : ¬ Fp.bL a * Fp.bL a = a := by simpa using VF
    refine aC Kr 6 rfl ?_; intro V5 ex V6
    obtain ⟨B1,B2,E6,B6⟩ := bO ex B1 B2 E6 B6
    refine zm [0] ?_
    refine bD 1 rfl func143 rfl (de 2 _ Om) ?_
    rintro e w9 ⟨d9, rfl, D9, ex⟩
    obtain ⟨B1,B2,E6,B6⟩ := bO ex B1 B2 E6 B6
    refine aU ?_
    refine bD 2 rfl func204 rfl (gN 251 31 _) ?_
    rintro e V7 ⟨V8, rfl, VN, ex⟩
    obtain ⟨B1,B2,E6,B6⟩ := bO ex B1 B2 E6 B6
    refine aU ?_
    refine bD 3 rfl func203 rfl (ik D9 _ 32 32 _ _ VN Om) ?_
    rintro e V9 ⟨d11, rfl, VL, ex⟩
    refine aU ?_
    obtain ⟨B1,B2,E6,B6⟩ := bO ex B1 B2 E6 B6
    rw [VX, Fp.zp] at VL
    refine bD 4 rfl func144 rfl (bB D VL _) ?_
    rintro e Wa ⟨d12, rfl, Vx, ex⟩
    obtain ⟨B1,B2,E6,B6⟩ := bO ex B1 B2 E6 B6
    refine aU ?_
    refine bk 5 Kr ?_; refine bH rfl (ah rfl rfl (by rw [Vx.size]; kernel_rfl) B6 (by rw [D.size, Vx.size]) Vx.one) rfl ?_
    rintro _ Wb ⟨rfl, VO, cg⟩
    refine ⟨.inl rfl, ?_⟩
    replace B1 := B1.aE cg Om; replace B2 := B2.aE cg Om; replace E6 := E6.aE cg Vz; replace B6 := VO
    refine aU ?_
    refine aC Kr 5 rfl ?_; intro VP ex VQ
    obtain ⟨B1,B2,E6,B6⟩ := bO ex B1 B2 E6 B6
    refine zm [0, 2] ?_
    refine bD 1 rfl func205 rfl (bX Vx _) ?_
    rintro e VR ⟨d14, rfl, VG, ex⟩
    obtain ⟨B1,B2,E6,B6⟩ := bO ex B1 B2 E6 B6
    refine aU ?_
    refine bD 3 rfl func242 rfl (eE VG ha _) ?_
    rintro e VS ⟨rfl, ex⟩
    obtain ⟨B1,B2,E6,B6⟩ := bO ex B1 B2 E6 B6
    refine zm [4] ?_
    refine bA rfl (fun VA => ?_) (fun VA => ?_)
    ·have VE : ¬ (Fp.bL a * Fp.im) * (Fp.bL a * Fp.im) = a := by simpa using VA
     have hns : ¬ Fp.ry a := fun hs => by rcases hso hs with h | h <;> contradiction
     refine au 2 ?_
     refine ak (aq rfl (cells := fe (fun _ => 0)) Kr) ?_
     refine ag (ah rfl rfl Kr B2 rfl (bh _)) rfl ?_
     rintro _ ix ⟨rfl, VH, cg⟩
     have VI := E6.aE cg Vy
     refine aU ?_
     refine hret rfl rfl VH (aj _) ?_
     exact ⟨_, by rw [decide_eq_false hns], by rw [if_neg hns]; exact FE.zero, VI⟩
    ·have VE : (Fp.bL a * Fp.im) * (Fp.bL a * Fp.im) = a := by simpa using VA
     have hns : Fp.ry a := Fp.kf VE
     refine aU ?_
     refine aB func156 rfl (gW Vx _) ?_
     rintro e VT ⟨rfl, ex⟩
     obtain ⟨B1,B2,E6,B6⟩ := bO ex B1 B2 E6 B6
     refine aU ?_
     refine al rfl (fun VB => ?_) (fun VB => ?_)
     ·refine aU ?_
      refine aB func208 rfl (gZ Vx _) ?_
      rintro e VU ⟨d18, rfl, Vw, ex⟩
      obtain ⟨B1,B2,E6,B6⟩ := bO ex B1 B2 E6 B6
      refine au 1 ?_
      refine ag (ah rfl rfl (by rw [Vw.size]; kernel_rfl) B6 (by rw [Vx.size, Vw.size]) Vw.one) rfl ?_
      rintro _ VV ⟨rfl, VJ, cg⟩
      replace B1 := B1.aE cg Om; replace B2 := B2.aE cg Om; replace E6 := E6.aE cg Vz; replace B6 := VJ
      refine au 5 ?_
      refine ag (ah rfl rfl (by rw [Vw.size]; kernel_rfl) B2 (by rw [aj, Vw.size]) Vw.one) rfl ?_
      rintro _ VK ⟨rfl, VC, cg⟩
      have VD := E6.aE cg Vy
      refine aU ?_
      refine hret rfl rfl VC Vw.size ?_
      exact ⟨_, by rw [decide_eq_true hns], by rw [if_pos hns]; exact Vw.congr (by unfold Fp.root; simp only [hq, ↓reduceIte, VB]), VD⟩
     ·refine au 5 ?_
      refine ag (ah rfl rfl (by rw [Vx.size]; kernel_rfl) B2 (by rw [aj, Vx.size]) Vx.one) rfl ?_
      rintro _ VK ⟨rfl, VC, cg⟩
      have VD := E6.aE cg Vy
      refine aU ?_
      refine hret rfl rfl VC Vx.size ?_
      exact ⟨_, by rw [decide_eq_true hns], by rw [if_pos hns]; exact Vx.congr (by unfold Fp.root; simp only [hq, ↓reduceIte, VB]), VD⟩
   ·have hq : Fp.bL a * Fp.bL a = a := by simpa using VF
    refine aU ?_
    refine aC Kr 5 rfl ?_; intro VP ex VQ
    obtain ⟨B1,B2,E6,B6⟩ := bO ex B1 B2 E6 B6
    refine zm [0, 2] ?_
    refine bD 1 rfl func205 rfl (bX D _) ?_
    rintro e VR ⟨d14, rfl, VG, ex⟩
    obtain ⟨B1,B2,E6,B6⟩ := bO ex B1 B2 E6 B6
    refine aU ?_
    refine bD 3 rfl func242 rfl (eE VG ha _) ?_
    rintro e VS ⟨rfl, ex⟩
    obtain ⟨B1,B2,E6,B6⟩ := bO ex B1 B2 E6 B6
    refine zm [4] ?_
    refine bA rfl (fun VA => ?_) (fun VA => ?_)
    ·have VE : ¬ (Fp.bL a) * (Fp.bL a) = a := by simpa using VA
     have hns : ¬ Fp.ry a := fun hs => by rcases hso hs with h | h <;> contradiction
     refine au 2 ?_
     refine ak (aq rfl (cells := fe (fun _ => 0)) Kr) ?_
     refine ag (ah rfl rfl Kr B2 rfl (bh _)) rfl ?_
     rintro _ ix ⟨rfl, VH, cg⟩
     have VI := E6.aE cg Vy
     refine aU ?_
     refine hret rfl rfl VH (aj _) ?_
     exact ⟨_, by rw [decide_eq_false hns], by rw [if_neg hns]; exact FE.zero, VI⟩
    ·have VE : (Fp.bL a) * (Fp.bL a) = a := by simpa using VA
     have hns : Fp.ry a := Fp.kf VE
     refine aU ?_
     refine aB func156 rfl (gW D _) ?_
     rintro e VT ⟨rfl, ex⟩
     obtain ⟨B1,B2,E6,B6⟩ := bO ex B1 B2 E6 B6
     refine aU ?_
     refine al rfl (fun VB => ?_) (fun VB => ?_)
     ·refine aU ?_
      refine aB func208 rfl (gZ D _) ?_
      rintro e VU ⟨d18, rfl, Vw, ex⟩
      obtain ⟨B1,B2,E6,B6⟩ := bO ex B1 B2 E6 B6
      refine au 1 ?_
      refine ag (ah rfl rfl (by rw [Vw.size]; kernel_rfl) B6 (by rw [D.size, Vw.size]) Vw.one) rfl ?_
      rintro _ VV ⟨rfl, VJ, cg⟩
      replace B1 := B1.aE cg Om; replace B2 := B2.aE cg Om; replace E6 := E6.aE cg Vz; replace B6 := VJ
      refine au 5 ?_
      refine ag (ah rfl rfl (by rw [Vw.size]; kernel_rfl) B2 (by rw [aj, Vw.size]) Vw.one) rfl ?_
      rintro _ VK ⟨rfl, VC, cg⟩
      have VD := E6.aE cg Vy
      refine aU ?_
      refine hret rfl rfl VC Vw.size ?_
      exact ⟨_, by rw [decide_eq_true hns], by rw [if_pos hns]; exact Vw.congr (by unfold Fp.root; simp only [hq, ↓reduceIte, VB]), VD⟩
     ·refine au 5 ?_
      refine ag (ah rfl rfl (by rw [D.size]; kernel_rfl) B2 (by rw [aj, D.size]) D.one) rfl ?_
      rintro _ VK ⟨rfl, VC, cg⟩
      have VD := E6.aE cg Vy
      refine aU ?_
      refine hret rfl rfl VC D.size ?_
      exact ⟨_, by rw [decide_eq_true hns], by rw [if_pos hns]; exact D.congr (by unfold Fp.root; simp only [hq, ↓reduceIte, VB]), VD⟩
 ·skip
  have VM := E2; have VY := B2.lt
  refine bH rfl (cw (Z := fe (fun _ => 0)) Kr) rfl ?_
  rintro _ w5 ⟨g5, rfl, B5, VZ, ex⟩
  refine ⟨.inr ex, ?_⟩
  obtain ⟨B1,B2,E2⟩ := bC ex B1 B2 E2
  have Vz : w.heap.size ≤ g5 := by have := VM.size; omega
  refine bD 1 rfl func204 rfl (gN 254 15 _) ?_
  rintro e w3 ⟨g3, rfl, H3, ex⟩
  obtain ⟨B1,B2,E2,B5⟩ := bO ex B1 B2 E2 B5
  refine aU ?_
  refine bD 2 rfl func203 rfl (ik ha _ 32 32 _ _ H3 Om) ?_
  rintro e w4 ⟨ds, rfl, D, ex⟩
  refine au 1 ?_
  obtain ⟨B1,B2,E2,B5⟩ := bO ex B1 B2 E2 B5
  rw [VW] at D; replace D : FE ds (Fp.bL a) := D
  refine bk 4 Kr ?_; refine bH rfl (ah rfl rfl (by rw [D.size]; kernel_rfl) B5 (by rw [aj, D.size]) D.one) rfl ?_
  rintro _ w6 ⟨rfl, B6, cg⟩
  refine ⟨.inl rfl, ?_⟩
  replace B1 := B1.aE cg Om; replace B2 := B2.aE cg Om; have E6 := E2.aE cg Vz
  refine aU ?_
  refine aC Kr 5 rfl ?_; intro V0 ex V4
  obtain ⟨B1,B2,E6,B6⟩ := bO ex B1 B2 E6 B6
  refine zm [0, 2] ?_
  refine bD 1 rfl func205 rfl (bX D _) ?_
  rintro e w7 ⟨d7, rfl, D7, ex⟩
  obtain ⟨B1,B2,E6,B6⟩ := bO ex B1 B2 E6 B6
  refine aU ?_
  refine bD 3 rfl func242 rfl (eE D7 ha _) ?_
  rintro e w8 ⟨rfl, ex⟩
  obtain ⟨B1,B2,E6,B6⟩ := bO ex B1 B2 E6 B6
  refine zm [4] ?_
  refine bA rfl (fun VF => ?_) (fun VF => ?_)
  ·skip
   have hq : ¬ Fp.bL a * Fp.bL a = a := by simpa using VF
   refine aC Kr 6 rfl ?_; intro V5 ex V6
   obtain ⟨B1,B2,E6,B6⟩ := bO ex B1 B2 E6 B6
   refine zm [0] ?_
   refine bD 1 rfl func143 rfl (de 2 _ Om) ?_
   rintro e w9 ⟨d9, rfl, D9, ex⟩
   obtain ⟨B1,B2,E6,B6⟩ := bO ex B1 B2 E6 B6
   refine aU ?_
   refine bD 2 rfl func204 rfl (gN 251 31 _) ?_
   rintro e V7 ⟨V8, rfl, VN, ex⟩
   obtain ⟨B1,B2,E6,B6⟩ := bO ex B1 B2 E6 B6
   refine aU ?_
   refine bD 3 rfl func203 rfl (ik D9 _ 32 32 _ _ VN Om) ?_
   rintro e V9 ⟨d11, rfl, VL, ex⟩
   refine aU ?_
   obtain ⟨B1,B2,E6,B6⟩ := bO ex B1 B2 E6 B6
   rw [VX, Fp.zp] at VL
   refine bD 4 rfl func144 rfl (bB D VL _) ?_
   rintro e Wa ⟨d12, rfl, Vx, ex⟩
   obtain ⟨B1,B2,E6,B6⟩ := bO ex B1 B2 E6 B6
   refine aU ?_
   refine bk 5 Kr ?_; refine bH rfl (ah rfl rfl (by rw [Vx.size]; kernel_rfl) B6 (by rw [D.size, Vx.size]) Vx.one) rfl ?_
   rintro _ Wb ⟨rfl, VO, cg⟩
   refine ⟨.inl rfl, ?_⟩
   replace B1 := B1.aE cg Om; replace B2 := B2.aE cg Om; replace E6 := E6.aE cg Vz; replace B6 := VO
   refine aU ?_
   refine aC Kr 5 rfl ?_; intro VP ex VQ
   obtain ⟨B1,B2,E6,B6⟩ := bO ex B1 B2 E6 B6
   refine zm [0, 2] ?_
   refine bD 1 rfl func205 rfl (bX Vx _) ?_
   rintro e VR ⟨d14, rfl, VG, ex⟩
   obtain ⟨B1,B2,E6,B6⟩ := bO ex B1 B2 E6 B6
   refine aU ?_
   refine bD 3 rfl func242 rfl (eE VG ha _) ?_
   rintro e VS ⟨rfl, ex⟩
   obtain ⟨B1,B2,E6,B6⟩ := bO ex B1 B2 E6 B6
   refine zm [4] ?_
   refine bA rfl (fun VA => ?_) (fun VA => ?_)
   ·have VE : ¬ (Fp.bL a * Fp.im) * (Fp.bL a * Fp.im) = a := by simpa using VA
    have hns : ¬ Fp.ry a := fun hs => by rcases hso hs with h | h <;> contradiction
    refine au 2 ?_
    refine ak (aq rfl (cells := fe (fun _ => 0)) Kr) ?_
    refine ag (ah rfl rfl Kr B2 rfl (bh _)) rfl ?_
    rintro _ ix ⟨rfl, VH, cg⟩
    have VI := E6.aE cg Vy
    refine aU ?_
    refine hret rfl rfl VH (aj _) ?_
    exact ⟨_, by rw [decide_eq_false hns], by rw [if_neg hns]; exact FE.zero, VI⟩
   ·have VE : (Fp.bL a * Fp.im) * (Fp.bL a * Fp.im) = a := by simpa using VA
    have hns : Fp.ry a := Fp.kf VE
    refine aU ?_
    refine aB func156 rfl (gW Vx _) ?_
    rintro e VT ⟨rfl, ex⟩
    obtain ⟨B1,B2,E6,B6⟩ := bO ex B1 B2 E6 B6
    refine aU ?_
    refine al rfl (fun VB => ?_) (fun VB => ?_)
    ·refine aU ?_
     refine aB func208 rfl (gZ Vx _) ?_
     rintro e VU ⟨d18, rfl, Vw, ex⟩
     obtain ⟨B1,B2,E6,B6⟩ := bO ex B1 B2 E6 B6
     refine au 1 ?_
     refine ag (ah rfl rfl (by rw [Vw.size]; kernel_rfl) B6 (by rw [Vx.size, Vw.size]) Vw.one) rfl ?_
     rintro _ VV ⟨rfl, VJ, cg⟩
     replace B1 := B1.aE cg Om; replace B2 := B2.aE cg Om; replace E6 := E6.aE cg Vz; replace B6 := VJ
     refine au 5 ?_
     refine ag (ah rfl rfl (by rw [Vw.size]; kernel_rfl) B2 (by rw [aj, Vw.size]) Vw.one) rfl ?_
     rintro _ VK ⟨rfl, VC, cg⟩
     have VD := E6.aE cg Vy
     refine aU ?_
     refine hret rfl rfl VC Vw.size ?_
     exact ⟨_, by rw [decide_eq_true hns], by rw [if_pos hns]; exact Vw.congr (by unfold Fp.root; simp only [hq, ↓reduceIte, VB]), VD⟩
    ·refine au 5 ?_
     refine ag (ah rfl rfl (by rw [Vx.size]; kernel_rfl) B2 (by rw [aj, Vx.size]) Vx.one) rfl ?_
     rintro _ VK ⟨rfl, VC, cg⟩
     have VD := E6.aE cg Vy
     refine aU ?_
     refine hret rfl rfl VC Vx.size ?_
     exact ⟨_, by rw [decide_eq_true hns], by rw [if_pos hns]; exact Vx.congr (by unfold Fp.root; simp only [hq, ↓reduceIte, VB]), VD⟩
  ·have hq : Fp.bL a * Fp.bL a = a := by simpa using VF
   refine aU ?_
   refine aC Kr 5 rfl ?_; intro VP ex VQ
   obtain ⟨B1,B2,E6,B6⟩ := bO ex B1 B2 E6 B6
   refine zm [0, 2] ?_
   refine bD 1 rfl func205 rfl (bX D _) ?_
   rintro e VR ⟨d14, rfl, VG, ex⟩
   obtain ⟨B2,E6,B6⟩ := bC ex B2 E6 B6
   refine aU ?_
   refine bD 3 rfl func242 rfl (eE VG ha _) ?_
   rintro e VS ⟨rfl, ex⟩
   obtain ⟨B2,E6,B6⟩ := bC ex B2 E6 B6
   refine zm [4] ?_
   refine bA rfl (fun VA => ?_) (fun VA => ?_)
   ·have VE : ¬ (Fp.bL a) * (Fp.bL a) = a := by simpa using VA
    have hns : ¬ Fp.ry a := fun hs => by rcases hso hs with h | h <;> contradiction
    refine au 2 ?_
    refine ak (aq rfl (cells := fe (fun _ => 0)) Kr) ?_
    refine ag (ah rfl rfl Kr B2 rfl (bh _)) rfl ?_
    rintro _ ix ⟨rfl, VH, cg⟩
    have VI := E6.aE cg Vy
    refine aU ?_
    refine hret rfl rfl VH (aj _) ?_
    exact ⟨_, by rw [decide_eq_false hns], by rw [if_neg hns]; exact FE.zero, VI⟩
   ·have VE : (Fp.bL a) * (Fp.bL a) = a := by simpa using VA
    have hns : Fp.ry a := Fp.kf VE
    refine aU ?_
    refine aB func156 rfl (gW D _) ?_
    rintro e VT ⟨rfl, ex⟩
    obtain ⟨B2,E6,B6⟩ := bC ex B2 E6 B6
    refine aU ?_
    refine al rfl (fun VB => ?_) (fun VB => ?_)
    ·refine aU ?_
     refine aB func208 rfl (gZ D _) ?_
     rintro e VU ⟨d18, rfl, Vw, ex⟩
     obtain ⟨B2,E6,B6⟩ := bC ex B2 E6 B6
     refine au 1 ?_
     refine ag (ah rfl rfl (by rw [Vw.size]; kernel_rfl) B6 (by rw [D.size, Vw.size]) Vw.one) rfl ?_
     rintro _ VV ⟨rfl, VJ, cg⟩
     replace B2 := B2.aE cg Om; replace E6 := E6.aE cg Vz; replace B6 := VJ
     refine au 5 ?_
     refine ag (ah rfl rfl (by rw [Vw.size]; kernel_rfl) B2 (by rw [aj, Vw.size]) Vw.one) rfl ?_
     rintro _ VK ⟨rfl, VC, cg⟩
     have VD := E6.aE cg Vy
     refine aU ?_
     refine hret rfl rfl VC Vw.size ?_
     exact ⟨_, by rw [decide_eq_true hns], by rw [if_pos hns]; exact Vw.congr (by unfold Fp.root; simp only [hq, ↓reduceIte, VB]), VD⟩
    ·refine au 5 ?_
     refine ag (ah rfl rfl (by rw [D.size]; kernel_rfl) B2 (by rw [aj, D.size]) D.one) rfl ?_
     rintro _ VK ⟨rfl, VC, cg⟩
     have VD := E6.aE cg Vy
     refine aU ?_
     refine hret rfl rfl VC D.size ?_
     exact ⟨_, by rw [decide_eq_true hns], by rw [if_pos hns]; exact D.congr (by unfold Fp.root; simp only [hq, ↓reduceIte, VB]), VD⟩
theorem JM (A : Oa) (n c : Nat) (xs : Lb) (w : World) (HA : Bs w A n xs) :
  Ct 240 #[.slice A n c] w fun e w' => ∃ cs, e = .returned (.agg cs) ∧ FE cs (Fp.of (Fp.OQ xs)) ∧ Ext w w' :=
 (JP A n c xs w HA).mono fun _ _ ⟨cs, h1, h2, h3⟩ => ⟨cs, h1, FE.of h2, h3⟩
end
end Go.Proofs.YtgfafidlkldeaaaGreat
