/- The field's Inv and Root, the reference's Pow and Inv: what each hands back. -/
import Derived.Test.YtgfafidlkldeaaaGreatFieldL
import Derived.Test.YtgfafidlkldeaaaGreatCtxA
import Derived.Test.YtgfafidlkldeaaaGreatAu
set_option linter.unusedVariables false
set_option linter.unusedSimpArgs false
set_option maxHeartbeats 4000000
set_option maxRecDepth 4000
namespace Go.Proofs.YtgfafidlkldeaaaGreat
section
section
open Go.RowKit
attribute [local irreducible] Y Ef WL WC WK WQ WM cx
def bt (f : Nat → Nat) : Array Value := aK .u8 (Fp.fn 32 f)
theorem Er (f : Nat → Nat) : (bt f).size = 32 := by rw [bt, bc, Fp.dF]
theorem Kn (f : Nat → Nat) {i j : Nat} (hi : i = j) (h : j < 32) : (bt f)[i]? = some (.int .u8 (f j : Nat)) := by
 subst hi; rw [bt, de _ _ _ (by rw [Fp.dF]; exact h), Fp.ow f h]
theorem KY (f : Nat → Nat) (i x : Nat) : (bt f).setIfInBounds i (.int .u8 (x : Int)) = bt (fun j => if j = i then x else f j) := by
 rw [bt, eS, Fp.vZ, bt]
theorem lv {f g : Nat → Nat} (h : ∀ j, j < 32 → f j = g j) : bt f = bt g := by unfold bt; rw [Fp.lX h]
theorem bt_le (x : Nat) : bt (fun j => x / 256 ^ j % 256) = cJ (Fp.le 32 x) := by
 unfold bt aK cJ Fp.fn Fp.le
 rw [List.map_map, List.map_map]
 congr 1
 apply List.map_congr_left
 intro j _
 simp only [Function.comp_apply, iv, bv, UInt8.toNat_ofNat']
 congr 2
 omega
theorem NL (x k : Nat) (hk : k ≤ 64) : (x : Int) / 2 ^ (min (k : Int).toNat IntKind.u64.bits) = ((x / 2 ^ k : Nat) : Int) := by
 have e : min (k : Int).toNat IntKind.u64.bits = k := by
  have : IntKind.u64.bits = 64 := rfl
  omega
 rw [e, show (2 : Int) ^ k = ((2 ^ k : Nat) : Int) from by rw [Int.natCast_pow]; rfl]
 exact (Int.natCast_ediv _ _).symm
theorem NX (b s : Nat) (hs : s < 8) (hb : b * 2 ^ s < 256) : IntKind.u8.wrap ((b : Int) * 2 ^ (min (s : Int).toNat IntKind.u8.bits)) = ((b * 2 ^ s : Nat) : Int) := by
 have e : min (s : Int).toNat IntKind.u8.bits = s := by
  have : IntKind.u8.bits = 8 := rfl
  omega
 rw [e, show (2 : Int) ^ s = ((2 ^ s : Nat) : Int) from by rw [Int.natCast_pow]; rfl, ← Int.natCast_mul, IntKind.wrap_u8']
 omega
theorem Ou (old b s : Nat) (ho : old < 2 ^ s) (h : old + b * 2 ^ s < 256) : bits .or .u8 (old : Int) ((b * 2 ^ s : Nat) : Int) = ((old + b * 2 ^ s : Nat) : Int) := by
 have h2 := (bN (p := old) (q := b * 2 ^ s) Om Om).2.1
 rw [h2, Nat.or_comm, Nat.mul_comm b, ← Nat.two_pow_add_eq_or_of_lt ho, Nat.add_comm]
theorem iQ {cs : Array Value} {a : Nat} (ha : Fe cs a) (w : World) :
  Ct 155 #[.agg cs] w fun e w' => ∃ g, e = .returned (.slice (some ⟨g, 0, none⟩) 32 32) ∧ w.heap.size ≤ g ∧ ao w' g 5 (cJ (Fp.le 32 a)) ∧ Ext w w' := by
 have hal := ha.lt
 obtain ⟨f, rfl, hf, hfa⟩ := ha
 refine aj 44 Tryz.func155 rfl rfl rfl rfl ?_
 intro _ hret
 refine aU ?_
 intro w1 g1 (B1 : ao _ _ _ (fe f)) Vp ex
 have E1 := ex
 refine aU ?_
 refine aL Tryz.func209 rfl (jM f _ hf) ?_
 rintro e _ ⟨rfl, ex⟩
 refine au 1 ?_
 rw [hfa]; have E2 := E1.ext ex; have C1 := B1.ext ex
 refine af (ag rfl rfl (by rw [ai]; kernel_rfl) C1 (by rw [ai, ai]) (bh _)) rfl ?_
 rintro _ _ ⟨rfl, B3, cg⟩
 have E3 := E2.aw cg Vp
 refine aU ?_
 refine af (dn (n := 32) (z := .int .u8 0) (bytes := 1) rfl rfl Tn.u Kr rfl rfl rfl rfl Om Om) rfl ?_
 rintro _ w4 ⟨g2, rfl, B4, Vq, ex⟩
 have E4 := E3.ext ex; have C3 := B3.ext ex; have Vl : w.heap.size ≤ g2 := Nat.le_trans E3.size Vq; replace B4 : ao w4 g2 5 (bt (fun j => a % 2 ^ (51 * 0) / 256 ^ j % 256)) := B4.congr (by rw [lv (g := fun _ => 0) fun j _ => by rw [Nat.mul_zero, Nat.pow_zero, Nat.mod_one, Nat.zero_div]]; rfl)
 refine aU ?_
 refine aF (fun n' L wr => ∃ i : Nat, L = [(3, .slice (some ⟨g2, 0, none⟩) 32 32), (12, .agg (fe (Fp.eE a))), (13, .int .i64 (i : Int))] ∧ n' = 5 - i ∧ (i ≤ 5 ∧ Ext w wr ∧ ao wr g2 5 (bt (fun j => a % 2 ^ (51 * i) / 256 ^ j % 256)))) _ _ ⟨0, rfl, rfl, by omega, E4, B4⟩ Ls ?_
 rintro _ n' L wr ⟨i, rfl, rfl, _, F, C2⟩ Vr
 refine aU ?_
 refine al rfl (fun Vs => ?_) (fun Vs => ?_)
 ·refine au 7 ?_
  refine ak (mn rfl rfl Tn.u Tn.u rfl Kr rfl Om (dj _ rfl Om)) ?_
  refine au 7 ?_
  refine ak (cz rfl rfl (bk (n := 51 * i) Om Om)) ?_
  refine aU ?_
  refine aF (fun n' L wq => ∃ k : Nat, L = [(3, .slice (some ⟨g2, 0, none⟩) 32 32), (5, .int .u64 ((Fp.eE a i : Nat) : Int)), (6, .int .i64 ((51 * i : Nat) : Int)), (12, .agg (fe (Fp.eE a))), (13, .int .i64 (i : Int)), (19, .int .i64 (k : Int))] ∧ n' = 51 - k ∧ (k ≤ 51 ∧ Ext w wq ∧ ao wq g2 5 (bt (fun j => a % 2 ^ (51 * i + k) / 256 ^ j % 256)))) _ _ ⟨0, rfl, rfl, by omega, F, C2⟩ Ls ?_
  rintro _ n' L wq ⟨k, rfl, rfl, _, G, K2⟩ Vt
  refine aU ?_
  refine al rfl (fun Vu => ?_) (fun Vu => ?_)
  ·refine aU ?_
   obtain ⟨T, hT⟩ : ∃ T, T = 51 * i + k := ⟨_, rfl⟩
   rw [← hT] at K2
   have hTl : T < 255 := by omega
   have hlim := Fp.xK a i
   have hx := Nat.mod_lt a (Nat.pow_pos (n := T) (show 0 < 2 by omega))
   have hbit := Fp.CQ a i k Om
   rw [← hT] at hbit
   obtain ⟨Vm, Vn⟩ : ∃ b, b = Fp.eE a i / 2 ^ k % 2 := ⟨_, rfl⟩
   have Vo : Vm ≤ 1 := by omega
   have hlt := Fp.yq hx; have Vx := Fp.ye T
   have hm : Vm * 2 ^ (T % 8) ≤ 1 * 2 ^ (T % 8) := Nat.mul_le_mul_right _ Vo
   have hdl : Fp.eE a i / 2 ^ k < 18446744073709551616 := Nat.lt_of_le_of_lt (Nat.div_le_self _ _) Om
   refine aA Kr 20 rfl ?_; intro Vv ex Vw
   replace G := G.ext ex; replace K2 := K2.ext ex
   refine zm [0, 1, 2] ?_
   refine cU 3 rfl (fun _ => aN rfl rfl (bk (n := T) Om Om)) ?_
   refine cU 4 rfl (fun _ => cY rfl rfl Om (show IntKind.i64.wrap ((T : Int).tdiv 8) = ((T / 8 : Nat) : Int) from bk rfl Om)) ?_
   refine zm [5] ?_
   refine my 6 rfl (ah rfl Tn.u rfl (K2.get (v := .int .u8 ((a % 2 ^ T / 256 ^ (T / 8) : Nat) : Int)) (by rw [Nat.zero_add, Kn _ rfl Om, Nat.mod_eq_of_lt (a := a % 2 ^ T / 256 ^ (T / 8)) Om]))) ?_
   refine zm [7, 8] ?_
   refine cU 9 rfl (fun _ => bY rfl rfl Om (NL _ k Om)) ?_
   refine cU 10 rfl (fun _ => cD rfl rfl (show bits .and .u64 ((Fp.eE a i / 2 ^ k : Nat) : Int) 1 = (Vm : Int) by rw [Vn]; exact Fi _ hdl)) ?_
   refine my 11 rfl (bg rfl Tn.u Tn.u (IntWalk.u8_in _ ⟨by omega, by omega⟩)) ?_
   refine zm [12, 13] ?_
   refine cU 14 rfl (fun _ => aN rfl rfl (bk (n := T) Om Om)) ?_
   refine cU 15 rfl (fun _ => cy rfl rfl Om (show ((T : Int).tmod 8 = ((T % 8 : Nat) : Int)) from rfl)) ?_
   refine cU 16 rfl (fun _ => eP rfl rfl Om (NX Vm (T % 8) Om Om)) ?_
   refine cU 17 rfl (fun _ => jk rfl rfl (Ou _ _ _ hlt Om)) ?_
   refine zm [18] ?_
   refine aM 19 Kr ?_; refine aO rfl (az rfl rfl rfl Kr K2 (by rw [Er]; omega)) rfl ?_
   rintro _ _ ⟨rfl, B5, cg⟩
   refine ⟨.inl rfl, ?_⟩
   rw [Nat.zero_add, KY] at B5; have G5 := G.aw cg Vl
   refine au 8 ?_
   refine ae ?_
   refine Vt _ _ ⟨k + 1, rfl, rfl, by omega, G5, B5.congr (lv fun j _ => by
    rw [show 51 * i + (k + 1) = T + 1 by omega, Nat.mod_pow_succ, ← hbit, ← Vn, Nat.mul_comm (2 ^ T)]
    exact Fp.AW j hx Vo)⟩ Om Ls
  ·refine au 10 ?_
   refine ae ?_
   refine Vr _ _ ⟨i + 1, rfl, rfl, by omega, G, K2.congr (lv fun j _ => by rw [show 51 * (i + 1) = 51 * i + k by omega])⟩ Om Ls
 ·refine aU ?_
  refine hret rfl ?_
  obtain rfl : i = 5 := by omega
  refine ⟨g2, rfl, Vl, C2.congr ?_, F⟩
  rw [← bt_le]
  refine lv fun j _ => ?_
  rw [Nat.mod_eq_of_lt (show a < 2 ^ (51 * 5) by unfold Fp.p at hal; omega)]
end
section
open Go.RowKit
attribute [local irreducible] Y Ef WL WC WK WQ WM cx
end
section
open Go.RowKit
attribute [local irreducible] Y Ef WL WC WK WQ WM cx
end
section
open Go.RowKit
attribute [local irreducible] Y Ef WL WC WK WQ WM cx
end
end
section
open Go.RowKit Tryz
attribute [local irreducible] Y Ef WL WC WK WQ WM cx
theorem ir {cs : Array Value} {a : Fp.F} (ha : FE cs a) (w : World) :
  Ct 145 #[.agg cs] w fun e w' => ∃ ds, e = .returned (.agg ds) ∧ FE ds (Fp.inv a) ∧ Ext w w' := by
 have hnum : Fp.num (ME 235 127) = Fp.p - 2 := by decide +kernel
 refine aI (s := 5) 6 func145 rfl rfl rfl underlying134 rfl Kr rfl ?_
 intro _ hret
 refine aU ?_
 intro w1 g1 (B1 : ao _ _ _ (cs)) Vn ex
 have E1 := ex
 refine aU ?_
 intro w2 g2 (B2 : ao _ _ _ (fe (fun _ => 0))) Vm ex
 have E2 := E1.ext ex; replace B1 := B1.ext ex; have Vl : w.heap.size ≤ g2 := Nat.le_trans E1.size Vm
 refine aU ?_
 refine aA Kr 4 rfl ?_; intro Vo ex Vp
 obtain ⟨B1,B2,E2⟩ := bC ex B1 B2 E2
 refine zm [0] ?_
 refine bm 1 rfl func204 rfl (fY 235 127 _) ?_
 rintro e _ ⟨_, rfl, H3, ex⟩
 obtain ⟨B2,E2⟩ := aY ex B2 E2
 refine aU ?_
 refine bm 2 rfl func203 rfl (gB ha _ 32 32 _ _ H3 Om) ?_
 rintro e _ ⟨ds, rfl, D, ex⟩
 refine aU ?_
 obtain ⟨B2,E2⟩ := aY ex B2 E2
 rw [hnum] at D
 refine aM 3 Kr ?_; refine aO rfl (ag rfl rfl (by rw [D.size]; kernel_rfl) B2 (by rw [ai, D.size]) D.one) rfl ?_
 rintro _ _ ⟨rfl, B5, cg⟩
 refine ⟨.inl rfl, ?_⟩
 have E5 := E2.aw cg Vl
 refine aU ?_
 refine hret rfl B5 D.size ?_
 exact ⟨_, rfl, D, E5⟩
theorem zv {cs : Array Value} {a : Fp.F} (ha : FE cs a) (w : World) :
  Ct 207 #[.agg cs] w fun e w' => ∃ ds, e = .returned (.tuple #[.agg ds, .bool (decide (Fp.pW a))]) ∧ FE ds (if Fp.pW a then Fp.root a else 0) ∧ Ext w w' := by
 have VL : Fp.num (ME 254 15) = Fp.e8 := by decide +kernel
 have VM : Fp.num (ME 251 31) = Fp.ki := by decide +kernel
 have hso := Fp.tS (a := a)
 refine cV (s := 5) 29 func207 rfl rfl rfl underlying134 rfl Kr rfl ?_
 intro _ hret
 refine au 2 ?_
 refine af (nc (cs := cs) rfl rfl) rfl ?_
 rintro _ _ ⟨_, rfl, B1, _, ex⟩
 have E1 := ex; have VZ := B1.lt
 refine af (dL (Z := fe (fun _ => 0)) Kr) rfl ?_
 rintro _ _ ⟨g2, rfl, B2, VY, ex⟩
 have E2 := E1.ext ex; replace B1 := B1.ext ex; have Vn : w.heap.size ≤ g2 := Nat.le_trans E1.size VY
 refine aU ?_
 refine aA Kr 5 rfl ?_; intro V0 ex V1
 obtain ⟨B1,B2,E2⟩ := bC ex B1 B2 E2
 refine zm [0] ?_
 refine ez 1 3 Kr ?_ ?_
 ·skip
  refine dG rfl func204 rfl rfl rfl (fY 254 15 _) rfl ?_
  rintro e w3 ⟨g3, rfl, H3, ex⟩
  obtain ⟨B1,B2,E2⟩ := bC ex B1 B2 E2
  refine aU ?_
  refine ez 2 3 Kr ?_ ?_
  ·skip
   refine dG rfl func203 rfl rfl rfl (gB ha _ 32 32 _ _ H3 Om) rfl ?_
   rintro e w4 ⟨ds, rfl, D, ex⟩
   refine au 1 ?_
   obtain ⟨B1,B2,E2⟩ := bC ex B1 B2 E2
   rw [VL] at D; replace D : FE ds (Fp.bI a) := D
   have VB := E2; have VN := B2.lt
   refine aM 3 Kr ?_; refine aO rfl (dL (Z := fe (fun _ => 0)) Kr) rfl ?_
   rintro _ w5 ⟨g5, rfl, B5, VO, ex⟩
   refine ⟨.inr ex, ?_⟩
   obtain ⟨B1,B2,E2⟩ := bC ex B1 B2 E2
   have Vo : w.heap.size ≤ g5 := by have := VB.size; omega
   refine aM 4 Kr ?_; refine aO rfl (ag rfl rfl (by rw [D.size]; kernel_rfl) B5 (by rw [ai, D.size]) D.one) rfl ?_
   rintro _ w6 ⟨rfl, B6, cg⟩
   refine ⟨.inl rfl, ?_⟩
   replace B1 := B1.aw cg Om; replace B2 := B2.aw cg Om; have E6 := E2.aw cg Vo
   refine aU ?_
   refine aA Kr 5 rfl ?_; intro VP ex VQ
   obtain ⟨B1,B2,E6,B6⟩ := bU ex B1 B2 E6 B6
   refine zm [0, 2] ?_
   refine bm 1 rfl func205 rfl (bQ D _) ?_
   rintro e w7 ⟨d7, rfl, D7, ex⟩
   obtain ⟨B1,B2,E6,B6⟩ := bU ex B1 B2 E6 B6
   refine aU ?_
   refine bm 3 rfl func242 rfl (dP D7 ha _) ?_
   rintro e w8 ⟨rfl, ex⟩
   obtain ⟨B1,B2,E6,B6⟩ := bU ex B1 B2 E6 B6
   refine zm [4] ?_
   refine bW rfl (fun Vu => ?_) (fun Vu => ?_)
   ·skip
    have hq : ¬ Fp.bI a * Fp.bI a = a := by simpa using Vu
    refine aA Kr 6 rfl ?_; intro VR ex VS
    obtain ⟨B1,B2,E6,B6⟩ := bU ex B1 B2 E6 B6
    refine zm [0] ?_
    refine bm 1 rfl func143 rfl (cP 2 _ Om) ?_
    rintro e w9 ⟨d9, rfl, D9, ex⟩
    obtain ⟨B1,B2,E6,B6⟩ := bU ex B1 B2 E6 B6
    refine aU ?_
    refine bm 2 rfl func204 rfl (fY 251 31 _) ?_
    rintro e VT ⟨VU, rfl, VC, ex⟩
    obtain ⟨B1,B2,E6,B6⟩ := bU ex B1 B2 E6 B6
    refine aU ?_
    refine bm 3 rfl func203 rfl (gB D9 _ 32 32 _ _ VC Om) ?_
    rintro e VV ⟨d11, rfl, VA, ex⟩
    refine aU ?_
    obtain ⟨B1,B2,E6,B6⟩ := bU ex B1 B2 E6 B6
    rw [VM, Fp.wH] at VA
    refine bm 4 rfl func144 rfl (bE D VA _) ?_
    rintro e VW ⟨d12, rfl, Vm, ex⟩
    obtain ⟨B1,B2,E6,B6⟩ := bU ex B1 B2 E6 B6
    refine aU ?_
    refine aM 5 Kr ?_; refine aO rfl (ag rfl rfl (by rw [Vm.size]; kernel_rfl) B6 (by rw [D.size, Vm.size]) Vm.one) rfl ?_
    rintro _ VX ⟨rfl, VD, cg⟩
    refine ⟨.inl rfl, ?_⟩
    replace B1 := B1.aw cg Om; replace B2 := B2.aw cg Om; replace E6 := E6.aw cg Vo; replace B6 := VD
    refine aU ?_
    refine aA Kr 5 rfl ?_; intro VE ex VF
    obtain ⟨B1,B2,E6,B6⟩ := bU ex B1 B2 E6 B6
    refine zm [0, 2] ?_
    refine bm 1 rfl func205 rfl (bQ Vm _) ?_
    rintro e VG ⟨d14, rfl, Vv, ex⟩
    obtain ⟨B1,B2,E6,B6⟩ := bU ex B1 B2 E6 B6
    refine aU ?_
    refine bm 3 rfl func242 rfl (dP Vv ha _) ?_
    rintro e VH ⟨rfl, ex⟩
    obtain ⟨B1,B2,E6,B6⟩ := bU ex B1 B2 E6 B6
    refine zm [4] ?_
    refine bW rfl (fun Vp => ?_) (fun Vp => ?_)
    ·have Vt : ¬ (Fp.bI a * Fp.im) * (Fp.bI a * Fp.im) = a := by simpa using Vp
     have hns : ¬ Fp.pW a := fun hs => by rcases hso hs with h | h <;> contradiction
     refine au 2 ?_
     refine ak (aJ rfl (cells := fe (fun _ => 0)) Kr) ?_
     refine af (ag rfl rfl Kr B2 rfl (bh _)) rfl ?_
     rintro _ gU ⟨rfl, Vw, cg⟩
     have Vx := E6.aw cg Vn
     refine aU ?_
     refine hret rfl rfl Vw (ai _) ?_
     exact ⟨_, by rw [decide_eq_false hns], by rw [if_neg hns]; exact FE.zero, Vx⟩
    ·have Vt : (Fp.bI a * Fp.im) * (Fp.bI a * Fp.im) = a := by simpa using Vp
     have hns : Fp.pW a := Fp.jC Vt
     refine aU ?_
     refine aL func156 rfl (gn Vm _) ?_
     rintro e VI ⟨rfl, ex⟩
     obtain ⟨B1,B2,E6,B6⟩ := bU ex B1 B2 E6 B6
     refine aU ?_
     refine al rfl (fun Vq => ?_) (fun Vq => ?_)
     ·refine aU ?_
      refine aL func208 rfl (gD Vm _) ?_
      rintro e VJ ⟨d18, rfl, Vl, ex⟩
      obtain ⟨B1,B2,E6,B6⟩ := bU ex B1 B2 E6 B6
      refine au 1 ?_
      refine af (ag rfl rfl (by rw [Vl.size]; kernel_rfl) B6 (by rw [Vm.size, Vl.size]) Vl.one) rfl ?_
      rintro _ VK ⟨rfl, Vy, cg⟩
      replace B1 := B1.aw cg Om; replace B2 := B2.aw cg Om; replace E6 := E6.aw cg Vo; replace B6 := Vy
      refine au 5 ?_
      refine af (ag rfl rfl (by rw [Vl.size]; kernel_rfl) B2 (by rw [ai, Vl.size]) Vl.one) rfl ?_
      rintro _ Vz ⟨rfl, Vr, cg⟩
      have Vs := E6.aw cg Vn
      refine aU ?_
      refine hret rfl rfl Vr Vl.size ?_
      exact ⟨_, by rw [decide_eq_true hns], by rw [if_pos hns]; exact Vl.congr (by unfold Fp.root; simp only [hq, ↓reduceIte, Vq]), Vs⟩
     ·refine au 5 ?_
      refine af (ag rfl rfl (by rw [Vm.size]; kernel_rfl) B2 (by rw [ai, Vm.size]) Vm.one) rfl ?_
      rintro _ Vz ⟨rfl, Vr, cg⟩
      have Vs := E6.aw cg Vn
      refine aU ?_
      refine hret rfl rfl Vr Vm.size ?_
      exact ⟨_, by rw [decide_eq_true hns], by rw [if_pos hns]; exact Vm.congr (by unfold Fp.root; simp only [hq, ↓reduceIte, Vq]), Vs⟩
   ·have hq : Fp.bI a * Fp.bI a = a := by simpa using Vu
    refine aU ?_
    refine aA Kr 5 rfl ?_; intro VE ex VF
    obtain ⟨B1,B2,E6,B6⟩ := bU ex B1 B2 E6 B6
    refine zm [0, 2] ?_
    refine bm 1 rfl func205 rfl (bQ D _) ?_
    rintro e VG ⟨d14, rfl, Vv, ex⟩
    obtain ⟨B1,B2,E6,B6⟩ := bU ex B1 B2 E6 B6
    refine aU ?_
    refine bm 3 rfl func242 rfl (dP Vv ha _) ?_
    rintro e VH ⟨rfl, ex⟩
    obtain ⟨B1,B2,E6,B6⟩ := bU ex B1 B2 E6 B6
    refine zm [4] ?_
    refine bW rfl (fun Vp => ?_) (fun Vp => ?_)
    ·have Vt : ¬ (Fp.bI a) * (Fp.bI a) = a := by simpa using Vp
     have hns : ¬ Fp.pW a := fun hs => by rcases hso hs with h | h <;> contradiction
     refine au 2 ?_
     refine ak (aJ rfl (cells := fe (fun _ => 0)) Kr) ?_
     refine af (ag rfl rfl Kr B2 rfl (bh _)) rfl ?_
     rintro _ gU ⟨rfl, Vw, cg⟩
     have Vx := E6.aw cg Vn
     refine aU ?_
     refine hret rfl rfl Vw (ai _) ?_
     exact ⟨_, by rw [decide_eq_false hns], by rw [if_neg hns]; exact FE.zero, Vx⟩
    ·have Vt : (Fp.bI a) * (Fp.bI a) = a := by simpa using Vp
     have hns : Fp.pW a := Fp.jC Vt
     refine aU ?_
     refine aL func156 rfl (gn D _) ?_
     rintro e VI ⟨rfl, ex⟩
     obtain ⟨B1,B2,E6,B6⟩ := bU ex B1 B2 E6 B6
     refine aU ?_
     refine al rfl (fun Vq => ?_) (fun Vq => ?_)
     ·refine aU ?_
      refine aL func208 rfl (gD D _) ?_
      rintro e VJ ⟨d18, rfl, Vl, ex⟩
      obtain ⟨B1,B2,E6,B6⟩ := bU ex B1 B2 E6 B6
      refine au 1 ?_
      refine af (ag rfl rfl (by rw [Vl.size]; kernel_rfl) B6 (by rw [D.size, Vl.size]) Vl.one) rfl ?_
      rintro _ VK ⟨rfl, Vy, cg⟩
      replace B1 := B1.aw cg Om; replace B2 := B2.aw cg Om; replace E6 := E6.aw cg Vo; replace B6 := Vy
      refine au 5 ?_
      refine af (ag rfl rfl (by rw [Vl.size]; kernel_rfl) B2 (by rw [ai, Vl.size]) Vl.one) rfl ?_
      rintro _ Vz ⟨rfl, Vr, cg⟩
      have Vs := E6.aw cg Vn
      refine aU ?_
      refine hret rfl rfl Vr Vl.size ?_
      exact ⟨_, by rw [decide_eq_true hns], by rw [if_pos hns]; exact Vl.congr (by unfold Fp.root; simp only [hq, ↓reduceIte, Vq]), Vs⟩
     ·refine au 5 ?_
      refine af (ag rfl rfl (by rw [D.size]; kernel_rfl) B2 (by rw [ai, D.size]) D.one) rfl ?_
      rintro _ Vz ⟨rfl, Vr, cg⟩
      have Vs := E6.aw cg Vn
      refine aU ?_
      refine hret rfl rfl Vr D.size ?_
      exact ⟨_, by rw [decide_eq_true hns], by rw [if_pos hns]; exact D.congr (by unfold Fp.root; simp only [hq, ↓reduceIte, Vq]), Vs⟩
  ·skip
   have VB := E2; have VN := B2.lt
   refine aO rfl (dL (Z := fe (fun _ => 0)) Kr) rfl ?_
   rintro _ w5 ⟨g5, rfl, B5, VO, ex⟩
   refine ⟨.inr ex, ?_⟩
   obtain ⟨B1,B2,E2,H3⟩ := bU ex B1 B2 E2 H3
   have Vo : w.heap.size ≤ g5 := by have := VB.size; omega
   refine bm 2 rfl func203 rfl (gB ha _ 32 32 _ _ H3 Om) ?_
   rintro e w4 ⟨ds, rfl, D, ex⟩
   refine au 1 ?_
   obtain ⟨B1,B2,E2,B5⟩ := bU ex B1 B2 E2 B5
   rw [VL] at D; replace D : FE ds (Fp.bI a) := D
   refine aM 4 Kr ?_; refine aO rfl (ag rfl rfl (by rw [D.size]; kernel_rfl) B5 (by rw [ai, D.size]) D.one) rfl ?_
   rintro _ w6 ⟨rfl, B6, cg⟩
   refine ⟨.inl rfl, ?_⟩
   replace B1 := B1.aw cg Om; replace B2 := B2.aw cg Om; have E6 := E2.aw cg Vo
   refine aU ?_
   refine aA Kr 5 rfl ?_; intro VP ex VQ
   obtain ⟨B1,B2,E6,B6⟩ := bU ex B1 B2 E6 B6
   refine zm [0, 2] ?_
   refine bm 1 rfl func205 rfl (bQ D _) ?_
   rintro e w7 ⟨d7, rfl, D7, ex⟩
   obtain ⟨B1,B2,E6,B6⟩ := bU ex B1 B2 E6 B6
   refine aU ?_
   refine bm 3 rfl func242 rfl (dP D7 ha _) ?_
   rintro e w8 ⟨rfl, ex⟩
   obtain ⟨B1,B2,E6,B6⟩ := bU ex B1 B2 E6 B6
   refine zm [4] ?_
   refine bW rfl (fun Vu => ?_) (fun Vu => ?_)
   ·skip
    have hq : ¬ Fp.bI a * Fp.bI a = a := by simpa using Vu
    refine aA Kr 6 rfl ?_; intro VR ex VS
    obtain ⟨B1,B2,E6,B6⟩ := bU ex B1 B2 E6 B6
    refine zm [0] ?_
    refine bm 1 rfl func143 rfl (cP 2 _ Om) ?_
    rintro e w9 ⟨d9, rfl, D9, ex⟩
    obtain ⟨B1,B2,E6,B6⟩ := bU ex B1 B2 E6 B6
    refine aU ?_
    refine bm 2 rfl func204 rfl (fY 251 31 _) ?_
    rintro e VT ⟨VU, rfl, VC, ex⟩
    obtain ⟨B1,B2,E6,B6⟩ := bU ex B1 B2 E6 B6
    refine aU ?_
    refine bm 3 rfl func203 rfl (gB D9 _ 32 32 _ _ VC Om) ?_
    rintro e VV ⟨d11, rfl, VA, ex⟩
    refine aU ?_
    obtain ⟨B1,B2,E6,B6⟩ := bU ex B1 B2 E6 B6
    rw [VM, Fp.wH] at VA
    refine bm 4 rfl func144 rfl (bE D VA _) ?_
    rintro e VW ⟨d12, rfl, Vm, ex⟩
    obtain ⟨B1,B2,E6,B6⟩ := bU ex B1 B2 E6 B6
    refine aU ?_
    refine aM 5 Kr ?_; refine aO rfl (ag rfl rfl (by rw [Vm.size]; kernel_rfl) B6 (by rw [D.size, Vm.size]) Vm.one) rfl ?_
    rintro _ VX ⟨rfl, VD, cg⟩
    refine ⟨.inl rfl, ?_⟩
    replace B1 := B1.aw cg Om; replace B2 := B2.aw cg Om; replace E6 := E6.aw cg Vo; replace B6 := VD
    refine aU ?_
    refine aA Kr 5 rfl ?_; intro VE ex VF
    obtain ⟨B1,B2,E6,B6⟩ := bU ex B1 B2 E6 B6
    refine zm [0, 2] ?_
    refine bm 1 rfl func205 rfl (bQ Vm _) ?_
    rintro e VG ⟨d14, rfl, Vv, ex⟩
    obtain ⟨B1,B2,E6,B6⟩ := bU ex B1 B2 E6 B6
    refine aU ?_
    refine bm 3 rfl func242 rfl (dP Vv ha _) ?_
    rintro e VH ⟨rfl, ex⟩
    obtain ⟨B1,B2,E6,B6⟩ := bU ex B1 B2 E6 B6
    refine zm [4] ?_
    refine bW rfl (fun Vp => ?_) (fun Vp => ?_)
    ·have Vt : ¬ (Fp.bI a * Fp.im) * (Fp.bI a * Fp.im) = a := by simpa using Vp
     have hns : ¬ Fp.pW a := fun hs => by rcases hso hs with h | h <;> contradiction
     refine au 2 ?_
     refine ak (aJ rfl (cells := fe (fun _ => 0)) Kr) ?_
     refine af (ag rfl rfl Kr B2 rfl (bh _)) rfl ?_
     rintro _ gU ⟨rfl, Vw, cg⟩
     have Vx := E6.aw cg Vn
     refine aU ?_
     refine hret rfl rfl Vw (ai _) ?_
     exact ⟨_, by rw [decide_eq_false hns], by rw [if_neg hns]; exact FE.zero, Vx⟩
    ·have Vt : (Fp.bI a * Fp.im) * (Fp.bI a * Fp.im) = a := by simpa using Vp
     have hns : Fp.pW a := Fp.jC Vt
     refine aU ?_
     refine aL func156 rfl (gn Vm _) ?_
     rintro e VI ⟨rfl, ex⟩
     obtain ⟨B1,B2,E6,B6⟩ := bU ex B1 B2 E6 B6
     refine aU ?_
     refine al rfl (fun Vq => ?_) (fun Vq => ?_)
     ·refine aU ?_
      refine aL func208 rfl (gD Vm _) ?_
      rintro e VJ ⟨d18, rfl, Vl, ex⟩
      obtain ⟨B1,B2,E6,B6⟩ := bU ex B1 B2 E6 B6
      refine au 1 ?_
      refine af (ag rfl rfl (by rw [Vl.size]; kernel_rfl) B6 (by rw [Vm.size, Vl.size]) Vl.one) rfl ?_
      rintro _ VK ⟨rfl, Vy, cg⟩
      replace B1 := B1.aw cg Om; replace B2 := B2.aw cg Om; replace E6 := E6.aw cg Vo; replace B6 := Vy
      refine au 5 ?_
      refine af (ag rfl rfl (by rw [Vl.size]; kernel_rfl) B2 (by rw [ai, Vl.size]) Vl.one) rfl ?_
      rintro _ Vz ⟨rfl, Vr, cg⟩
      have Vs := E6.aw cg Vn
      refine aU ?_
      refine hret rfl rfl Vr Vl.size ?_
      exact ⟨_, by rw [decide_eq_true hns], by rw [if_pos hns]; exact Vl.congr (by unfold Fp.root; simp only [hq, ↓reduceIte, Vq]), Vs⟩
     ·refine au 5 ?_
      refine af (ag rfl rfl (by rw [Vm.size]; kernel_rfl) B2 (by rw [ai, Vm.size]) Vm.one) rfl ?_
      rintro _ Vz ⟨rfl, Vr, cg⟩
      have Vs := E6.aw cg Vn
      refine aU ?_
      refine hret rfl rfl Vr Vm.size ?_
      exact ⟨_, by rw [decide_eq_true hns], by rw [if_pos hns]; exact Vm.congr (by unfold Fp.root; simp only [hq, ↓reduceIte, Vq]), Vs⟩
   ·have hq : Fp.bI a * Fp.bI a = a := by simpa using Vu
    refine aU ?_
    refine aA Kr 5 rfl ?_; intro VE ex VF
    obtain ⟨B1,B2,E6,B6⟩ := bU ex B1 B2 E6 B6
    refine zm [0, 2] ?_
    refine bm 1 rfl func205 rfl (bQ D _) ?_
    rintro e VG ⟨d14, rfl, Vv, ex⟩
    obtain ⟨B1,B2,E6,B6⟩ := bU ex B1 B2 E6 B6
    refine aU ?_
    refine bm 3 rfl func242 rfl (dP Vv ha _) ?_
    rintro e VH ⟨rfl, ex⟩
    obtain ⟨B1,B2,E6,B6⟩ := bU ex B1 B2 E6 B6
    refine zm [4] ?_
    refine bW rfl (fun Vp => ?_) (fun Vp => ?_)
    ·have Vt : ¬ (Fp.bI a) * (Fp.bI a) = a := by simpa using Vp
     have hns : ¬ Fp.pW a := fun hs => by rcases hso hs with h | h <;> contradiction
     refine au 2 ?_
     refine ak (aJ rfl (cells := fe (fun _ => 0)) Kr) ?_
     refine af (ag rfl rfl Kr B2 rfl (bh _)) rfl ?_
     rintro _ gU ⟨rfl, Vw, cg⟩
     have Vx := E6.aw cg Vn
     refine aU ?_
     refine hret rfl rfl Vw (ai _) ?_
     exact ⟨_, by rw [decide_eq_false hns], by rw [if_neg hns]; exact FE.zero, Vx⟩
    ·have Vt : (Fp.bI a) * (Fp.bI a) = a := by simpa using Vp
     have hns : Fp.pW a := Fp.jC Vt
     refine aU ?_
     refine aL func156 rfl (gn D _) ?_
     rintro e VI ⟨rfl, ex⟩
     obtain ⟨B1,B2,E6,B6⟩ := bU ex B1 B2 E6 B6
     refine aU ?_
     refine al rfl (fun Vq => ?_) (fun Vq => ?_)
     ·refine aU ?_
      refine aL func208 rfl (gD D _) ?_
      rintro e VJ ⟨d18, rfl, Vl, ex⟩
      obtain ⟨B1,B2,E6,B6⟩ := bU ex B1 B2 E6 B6
      refine au 1 ?_
      refine af (ag rfl rfl (by rw [Vl.size]; kernel_rfl) B6 (by rw [D.size, Vl.size]) Vl.one) rfl ?_
      rintro _ VK ⟨rfl, Vy, cg⟩
      replace B1 := B1.aw cg Om; replace B2 := B2.aw cg Om; replace E6 := E6.aw cg Vo; replace B6 := Vy
      refine au 5 ?_
      refine af (ag rfl rfl (by rw [Vl.size]; kernel_rfl) B2 (by rw [ai, Vl.size]) Vl.one) rfl ?_
      rintro _ Vz ⟨rfl, Vr, cg⟩
      have Vs := E6.aw cg Vn
      refine aU ?_
      refine hret rfl rfl Vr Vl.size ?_
      exact ⟨_, by rw [decide_eq_true hns], by rw [if_pos hns]; exact Vl.congr (by unfold Fp.root; simp only [hq, ↓reduceIte, Vq]), Vs⟩
     ·refine au 5 ?_
      refine af (ag rfl rfl (by rw [D.size]; kernel_rfl) B2 (by rw [ai, D.size]) D.one) rfl ?_
      rintro _ Vz ⟨rfl, Vr, cg⟩
      have Vs := E6.aw cg Vn
      refine aU ?_
      refine hret rfl rfl Vr D.size ?_
      exact ⟨_, by rw [decide_eq_true hns], by rw [if_pos hns]; exact D.congr (by unfold Fp.root; simp only [hq, ↓reduceIte, Vq]), Vs⟩
 ·skip
  have VB := E2; have VN := B2.lt
  refine aO rfl (dL (Z := fe (fun _ => 0)) Kr) rfl ?_
  rintro _ w5 ⟨g5, rfl, B5, VO, ex⟩
  refine ⟨.inr ex, ?_⟩
  obtain ⟨B1,B2,E2⟩ := bC ex B1 B2 E2
  have Vo : w.heap.size ≤ g5 := by have := VB.size; omega
  refine bm 1 rfl func204 rfl (fY 254 15 _) ?_
  rintro e w3 ⟨g3, rfl, H3, ex⟩
  obtain ⟨B1,B2,E2,B5⟩ := bU ex B1 B2 E2 B5
  refine aU ?_
  refine bm 2 rfl func203 rfl (gB ha _ 32 32 _ _ H3 Om) ?_
  rintro e w4 ⟨ds, rfl, D, ex⟩
  refine au 1 ?_
  obtain ⟨B1,B2,E2,B5⟩ := bU ex B1 B2 E2 B5
  rw [VL] at D; replace D : FE ds (Fp.bI a) := D
  refine aM 4 Kr ?_; refine aO rfl (ag rfl rfl (by rw [D.size]; kernel_rfl) B5 (by rw [ai, D.size]) D.one) rfl ?_
  rintro _ w6 ⟨rfl, B6, cg⟩
  refine ⟨.inl rfl, ?_⟩
  replace B1 := B1.aw cg Om; replace B2 := B2.aw cg Om; have E6 := E2.aw cg Vo
  refine aU ?_
  refine aA Kr 5 rfl ?_; intro VP ex VQ
  obtain ⟨B1,B2,E6,B6⟩ := bU ex B1 B2 E6 B6
  refine zm [0, 2] ?_
  refine bm 1 rfl func205 rfl (bQ D _) ?_
  rintro e w7 ⟨d7, rfl, D7, ex⟩
  obtain ⟨B1,B2,E6,B6⟩ := bU ex B1 B2 E6 B6
  refine aU ?_
  refine bm 3 rfl func242 rfl (dP D7 ha _) ?_
  rintro e w8 ⟨rfl, ex⟩
  obtain ⟨B1,B2,E6,B6⟩ := bU ex B1 B2 E6 B6
  refine zm [4] ?_
  refine bW rfl (fun Vu => ?_) (fun Vu => ?_)
  ·skip
   have hq : ¬ Fp.bI a * Fp.bI a = a := by simpa using Vu
   refine aA Kr 6 rfl ?_; intro VR ex VS
   obtain ⟨B1,B2,E6,B6⟩ := bU ex B1 B2 E6 B6
   refine zm [0] ?_
   refine bm 1 rfl func143 rfl (cP 2 _ Om) ?_
   rintro e w9 ⟨d9, rfl, D9, ex⟩
   obtain ⟨B1,B2,E6,B6⟩ := bU ex B1 B2 E6 B6
   refine aU ?_
   refine bm 2 rfl func204 rfl (fY 251 31 _) ?_
   rintro e VT ⟨VU, rfl, VC, ex⟩
   obtain ⟨B1,B2,E6,B6⟩ := bU ex B1 B2 E6 B6
   refine aU ?_
   refine bm 3 rfl func203 rfl (gB D9 _ 32 32 _ _ VC Om) ?_
   rintro e VV ⟨d11, rfl, VA, ex⟩
   refine aU ?_
   obtain ⟨B1,B2,E6,B6⟩ := bU ex B1 B2 E6 B6
   rw [VM, Fp.wH] at VA
   refine bm 4 rfl func144 rfl (bE D VA _) ?_
   rintro e VW ⟨d12, rfl, Vm, ex⟩
   obtain ⟨B1,B2,E6,B6⟩ := bU ex B1 B2 E6 B6
   refine aU ?_
   refine aM 5 Kr ?_; refine aO rfl (ag rfl rfl (by rw [Vm.size]; kernel_rfl) B6 (by rw [D.size, Vm.size]) Vm.one) rfl ?_
   rintro _ VX ⟨rfl, VD, cg⟩
   refine ⟨.inl rfl, ?_⟩
   replace B1 := B1.aw cg Om; replace B2 := B2.aw cg Om; replace E6 := E6.aw cg Vo; replace B6 := VD
   refine aU ?_
   refine aA Kr 5 rfl ?_; intro VE ex VF
   obtain ⟨B1,B2,E6,B6⟩ := bU ex B1 B2 E6 B6
   refine zm [0, 2] ?_
   refine bm 1 rfl func205 rfl (bQ Vm _) ?_
   rintro e VG ⟨d14, rfl, Vv, ex⟩
   obtain ⟨B1,B2,E6,B6⟩ := bU ex B1 B2 E6 B6
   refine aU ?_
   refine bm 3 rfl func242 rfl (dP Vv ha _) ?_
   rintro e VH ⟨rfl, ex⟩
   obtain ⟨B1,B2,E6,B6⟩ := bU ex B1 B2 E6 B6
   refine zm [4] ?_
   refine bW rfl (fun Vp => ?_) (fun Vp => ?_)
   ·have Vt : ¬ (Fp.bI a * Fp.im) * (Fp.bI a * Fp.im) = a := by simpa using Vp
    have hns : ¬ Fp.pW a := fun hs => by rcases hso hs with h | h <;> contradiction
    refine au 2 ?_
    refine ak (aJ rfl (cells := fe (fun _ => 0)) Kr) ?_
    refine af (ag rfl rfl Kr B2 rfl (bh _)) rfl ?_
    rintro _ gU ⟨rfl, Vw, cg⟩
    have Vx := E6.aw cg Vn
    refine aU ?_
    refine hret rfl rfl Vw (ai _) ?_
    exact ⟨_, by rw [decide_eq_false hns], by rw [if_neg hns]; exact FE.zero, Vx⟩
   ·have Vt : (Fp.bI a * Fp.im) * (Fp.bI a * Fp.im) = a := by simpa using Vp
    have hns : Fp.pW a := Fp.jC Vt
    refine aU ?_
    refine aL func156 rfl (gn Vm _) ?_
    rintro e VI ⟨rfl, ex⟩
    obtain ⟨B1,B2,E6,B6⟩ := bU ex B1 B2 E6 B6
    refine aU ?_
    refine al rfl (fun Vq => ?_) (fun Vq => ?_)
    ·refine aU ?_
     refine aL func208 rfl (gD Vm _) ?_
     rintro e VJ ⟨d18, rfl, Vl, ex⟩
     obtain ⟨B1,B2,E6,B6⟩ := bU ex B1 B2 E6 B6
     refine au 1 ?_
     refine af (ag rfl rfl (by rw [Vl.size]; kernel_rfl) B6 (by rw [Vm.size, Vl.size]) Vl.one) rfl ?_
     rintro _ VK ⟨rfl, Vy, cg⟩
     replace B1 := B1.aw cg Om; replace B2 := B2.aw cg Om; replace E6 := E6.aw cg Vo; replace B6 := Vy
     refine au 5 ?_
     refine af (ag rfl rfl (by rw [Vl.size]; kernel_rfl) B2 (by rw [ai, Vl.size]) Vl.one) rfl ?_
     rintro _ Vz ⟨rfl, Vr, cg⟩
     have Vs := E6.aw cg Vn
     refine aU ?_
     refine hret rfl rfl Vr Vl.size ?_
     exact ⟨_, by rw [decide_eq_true hns], by rw [if_pos hns]; exact Vl.congr (by unfold Fp.root; simp only [hq, ↓reduceIte, Vq]), Vs⟩
    ·refine au 5 ?_
     refine af (ag rfl rfl (by rw [Vm.size]; kernel_rfl) B2 (by rw [ai, Vm.size]) Vm.one) rfl ?_
     rintro _ Vz ⟨rfl, Vr, cg⟩
     have Vs := E6.aw cg Vn
     refine aU ?_
     refine hret rfl rfl Vr Vm.size ?_
     exact ⟨_, by rw [decide_eq_true hns], by rw [if_pos hns]; exact Vm.congr (by unfold Fp.root; simp only [hq, ↓reduceIte, Vq]), Vs⟩
  ·have hq : Fp.bI a * Fp.bI a = a := by simpa using Vu
   refine aU ?_
   refine aA Kr 5 rfl ?_; intro VE ex VF
   obtain ⟨B1,B2,E6,B6⟩ := bU ex B1 B2 E6 B6
   refine zm [0, 2] ?_
   refine bm 1 rfl func205 rfl (bQ D _) ?_
   rintro e VG ⟨d14, rfl, Vv, ex⟩
   obtain ⟨B2,E6,B6⟩ := bC ex B2 E6 B6
   refine aU ?_
   refine bm 3 rfl func242 rfl (dP Vv ha _) ?_
   rintro e VH ⟨rfl, ex⟩
   obtain ⟨B2,E6,B6⟩ := bC ex B2 E6 B6
   refine zm [4] ?_
   refine bW rfl (fun Vp => ?_) (fun Vp => ?_)
   ·have Vt : ¬ (Fp.bI a) * (Fp.bI a) = a := by simpa using Vp
    have hns : ¬ Fp.pW a := fun hs => by rcases hso hs with h | h <;> contradiction
    refine au 2 ?_
    refine ak (aJ rfl (cells := fe (fun _ => 0)) Kr) ?_
    refine af (ag rfl rfl Kr B2 rfl (bh _)) rfl ?_
    rintro _ gU ⟨rfl, Vw, cg⟩
    have Vx := E6.aw cg Vn
    refine aU ?_
    refine hret rfl rfl Vw (ai _) ?_
    exact ⟨_, by rw [decide_eq_false hns], by rw [if_neg hns]; exact FE.zero, Vx⟩
   ·have Vt : (Fp.bI a) * (Fp.bI a) = a := by simpa using Vp
    have hns : Fp.pW a := Fp.jC Vt
    refine aU ?_
    refine aL func156 rfl (gn D _) ?_
    rintro e VI ⟨rfl, ex⟩
    obtain ⟨B2,E6,B6⟩ := bC ex B2 E6 B6
    refine aU ?_
    refine al rfl (fun Vq => ?_) (fun Vq => ?_)
    ·refine aU ?_
     refine aL func208 rfl (gD D _) ?_
     rintro e VJ ⟨d18, rfl, Vl, ex⟩
     obtain ⟨B2,E6,B6⟩ := bC ex B2 E6 B6
     refine au 1 ?_
     refine af (ag rfl rfl (by rw [Vl.size]; kernel_rfl) B6 (by rw [D.size, Vl.size]) Vl.one) rfl ?_
     rintro _ VK ⟨rfl, Vy, cg⟩
     replace B2 := B2.aw cg Om; replace E6 := E6.aw cg Vo; replace B6 := Vy
     refine au 5 ?_
     refine af (ag rfl rfl (by rw [Vl.size]; kernel_rfl) B2 (by rw [ai, Vl.size]) Vl.one) rfl ?_
     rintro _ Vz ⟨rfl, Vr, cg⟩
     have Vs := E6.aw cg Vn
     refine aU ?_
     refine hret rfl rfl Vr Vl.size ?_
     exact ⟨_, by rw [decide_eq_true hns], by rw [if_pos hns]; exact Vl.congr (by unfold Fp.root; simp only [hq, ↓reduceIte, Vq]), Vs⟩
    ·refine au 5 ?_
     refine af (ag rfl rfl (by rw [D.size]; kernel_rfl) B2 (by rw [ai, D.size]) D.one) rfl ?_
     rintro _ Vz ⟨rfl, Vr, cg⟩
     have Vs := E6.aw cg Vn
     refine aU ?_
     refine hret rfl rfl Vr D.size ?_
     exact ⟨_, by rw [decide_eq_true hns], by rw [if_pos hns]; exact D.congr (by unfold Fp.root; simp only [hq, ↓reduceIte, Vq]), Vs⟩
theorem EU (A : Oa) (n c : Nat) (xs : Lb) (w : World) (HA : Bs w A n xs) :
  Ct 240 #[.slice A n c] w fun e w' => ∃ cs, e = .returned (.agg cs) ∧ FE cs (Fp.of (Fp.Mv xs)) ∧ Ext w w' :=
 (Ey A n c xs w HA).mono fun _ _ ⟨cs, h1, h2, h3⟩ => ⟨cs, h1, FE.of h2, h3⟩
end
end Go.Proofs.YtgfafidlkldeaaaGreat
