/- The reference's tag, and which tags are right. Lengths up to 2^45. -/
import Derived.Test.YtgfafidlkldeaaaGreatSha3
import Derived.Test.YtgfafidlkldeaaaGreatSl
import Derived.Test.YtgfafidlkldeaaaGreatVc
import Derived.Test.YtgfafidlkldeaaaGreatAu
set_option linter.unusedVariables false
set_option linter.unusedSimpArgs false
set_option maxHeartbeats 4000000
set_option maxRecDepth 4000
namespace Go.Proofs.YtgfafidlkldeaaaGreat
open Go.RowKit Tryz
attribute [local irreducible] Ef WC WK WL WM WQ Y cu
variable {xs ys : Lb} {g n : Nat} {w : aa9}
theorem tT (k : Nat) : (128 : UInt8) :: List.replicate k 0 ++ [0] = 128 :: List.replicate (k + 1) 0 := by rw [List.cons_append, ← List.replicate_succ']
theorem LB (n : Nat) (w : aa9) (hn : n ≤ 70368744177664) :
  Calls Tryz.prog 247 #[.int .i64 n] w fun e w' => ∃ A c, e = .returned (.slice A (9 + Sha.cv n) c) ∧ Own w' w.heap.size A (9 + Sha.cv n) c (Sha.pad n) ∧ Below w.heap.size w w' := by
 have hz : Sha.cv n < 64 := Nat.mod_lt _ Om;go_enter func247, ntmps247;go_wp2;go_loopw [3] (fun v wr => ∃ (k : Nat) (A : Oa) (c : Nat), v = .slice A (1 + k) c ∧ k ≤ Sha.cv n ∧ Below w.heap.size w wr ∧ Own wr w.heap.size A (1 + k) c (128 :: List.replicate k 0)) (fun v _ => 64 - (lenOf v));case atStart => exact ⟨0, _, _, rfl, Om, (Below.refl _ _).alloc (Nat.le_refl _) _, Own.lit w (Nat.le_refl _) 128⟩
 case round =>
  obtain ⟨k, A, c, rfl, hk, hbw, aa5⟩ := hrel
  by_cases hlt : k < Sha.cv n
  ·have ht : (((n : Int) + (1 + (k : Int))) % 64 != 56) = true := by rw [bne_iff_ne]; unfold Sha.cv at hlt; omega
   go_wp2_with (at_builtin; refine fL (w0 := w) rfl _ _ _ rfl _ _ bV _ _ _ _ rfl (aa5.alloc _) _ _ _ ([0].map bv) rfl rfl (Bs.one wr _ 0).2 aJ ?_ ?_ (hbw.alloc hbw.size _) ?_ ?_; rotate_right; intro A2 c2 w2 YU YV YW YX)
   ·go_roundw
    case rel => exact ⟨k + 1, A2, c2, rfl, Om, YV, (Own.app (ys := [0]) YU).congr rfl (tT k)⟩
    case measure => simp [lenOf]; omega
   ·omega
   ·omega
   have := hbw.size; simp; omega
  have ht : (((n : Int) + (1 + (k : Int))) % 64 != 56) = false := by rw [bne_eq_false_iff_eq]; unfold Sha.cv at hlt hk; omega
  go_wp2
  have YZ : k = Sha.cv n := Om
  have HK := Lib.hid YZ
  have YY : Own wr w.heap.size A (1 + k + 0) c (128 :: List.replicate k 0 ++ (Sha.lM (n * 8)).take 0) := aa5.congr rfl (by simp)
  have HO := Lib.hid YY; have HW := Lib.hid hbw
  clear YZ YY aa5 hbw
  obtain ⟨wo, rfl⟩ : ∃ wo : World, wo = wr := ⟨_, rfl⟩
  go_loopw [3, 4] (fun v i wx => ∃ (j : Nat) (A : Oa) (c : Nat), v = .slice A (1 + k + j) c ∧ j ≤ 8 ∧ i = .int .i64 (7 - (j : Int)) ∧ Below w.heap.size w wx ∧ Own wx w.heap.size A (1 + k + j) c (128 :: List.replicate k 0 ++ (Sha.lM (n * 8)).take j)) (fun v _ _ => 80 + k - (lenOf v))
  case atStart => exact ⟨0, A, c, rfl, Om, rfl, HW.out, HO.out⟩
  case round =>
   obtain ⟨j, A1, c1, rfl, hj, rfl, hbx, hox⟩ := hrel
   by_cases Y0 : j < 8
   ·obtain rfl | rfl | rfl | rfl | rfl | rfl | rfl | rfl : j = 0 ∨ j = 1 ∨ j = 2 ∨ j = 3 ∨ j = 4 ∨ j = 5 ∨ j = 6 ∨ j = 7 := Om
    ·go_wp2_with (at_builtin; refine fL (w0 := w) rfl _ _ _ rfl _ _ bV _ _ _ _ rfl (hox.alloc _) _ _ _ ([UInt8.ofNat (n * 8 / 72057594037927936)].map bv) rfl rfl (Bs.yQ wr _ ?_).2 aJ ?_ ?_ (hbx.alloc hbx.size _) ?_ ?_; rotate_right; intro A2 c2 w2 YU YV YW YX)
     ·go_roundw
      case rel => exact ⟨1, A2, c2, rfl, Om, rfl, YV, (Own.app (ys := [UInt8.ofNat (n * 8 / 72057594037927936)]) YU).congr rfl (by rw [List.append_assoc]; rfl)⟩
      case measure => simp [lenOf]; omega
     ·exact kf Om Om Om
     ·omega
     ·omega
     have := hbx.size; simp; omega
    ·go_wp2_with (at_builtin; refine fL (w0 := w) rfl _ _ _ rfl _ _ bV _ _ _ _ rfl (hox.alloc _) _ _ _ ([UInt8.ofNat (n * 8 / 281474976710656)].map bv) rfl rfl (Bs.yQ wr _ ?_).2 aJ ?_ ?_ (hbx.alloc hbx.size _) ?_ ?_; rotate_right; intro A2 c2 w2 YU YV YW YX)
     ·go_roundw
      case rel => exact ⟨2, A2, c2, rfl, Om, rfl, YV, (Own.app (ys := [UInt8.ofNat (n * 8 / 281474976710656)]) YU).congr rfl (by rw [List.append_assoc]; rfl)⟩
      case measure => simp [lenOf]; omega
     ·exact kf Om Om Om
     ·omega
     ·omega
     have := hbx.size; simp; omega
    ·go_wp2_with (at_builtin; refine fL (w0 := w) rfl _ _ _ rfl _ _ bV _ _ _ _ rfl (hox.alloc _) _ _ _ ([UInt8.ofNat (n * 8 / 1099511627776)].map bv) rfl rfl (Bs.yQ wr _ ?_).2 aJ ?_ ?_ (hbx.alloc hbx.size _) ?_ ?_; rotate_right; intro A2 c2 w2 YU YV YW YX)
     ·go_roundw
      case rel => exact ⟨3, A2, c2, rfl, Om, rfl, YV, (Own.app (ys := [UInt8.ofNat (n * 8 / 1099511627776)]) YU).congr rfl (by rw [List.append_assoc]; rfl)⟩
      case measure => simp [lenOf]; omega
     ·simp_all
     ·omega
     ·omega
     have := hbx.size; simp; omega
    ·go_wp2_with (at_builtin; refine fL (w0 := w) rfl _ _ _ rfl _ _ bV _ _ _ _ rfl (hox.alloc _) _ _ _ ([UInt8.ofNat (n * 8 / 4294967296)].map bv) rfl rfl (Bs.yQ wr _ ?_).2 aJ ?_ ?_ (hbx.alloc hbx.size _) ?_ ?_; rotate_right; intro A2 c2 w2 YU YV YW YX)
     ·go_roundw
      case rel => exact ⟨4, A2, c2, rfl, Om, rfl, YV, (Own.app (ys := [UInt8.ofNat (n * 8 / 4294967296)]) YU).congr rfl (by rw [List.append_assoc]; rfl)⟩
      case measure => simp [lenOf]; omega
     ·simp_all
     ·omega
     ·omega
     have := hbx.size; simp; omega
    ·go_wp2_with (at_builtin; refine fL (w0 := w) rfl _ _ _ rfl _ _ bV _ _ _ _ rfl (hox.alloc _) _ _ _ ([UInt8.ofNat (n * 8 / 16777216)].map bv) rfl rfl (Bs.yQ wr _ ?_).2 aJ ?_ ?_ (hbx.alloc hbx.size _) ?_ ?_; rotate_right; intro A2 c2 w2 YU YV YW YX)
     ·go_roundw
      case rel => exact ⟨5, A2, c2, rfl, Om, rfl, YV, (Own.app (ys := [UInt8.ofNat (n * 8 / 16777216)]) YU).congr rfl (by rw [List.append_assoc]; rfl)⟩
      case measure => simp [lenOf]; omega
     ·simp_all
     ·omega
     ·omega
     have := hbx.size; simp; omega
    ·go_wp2_with (at_builtin; refine fL (w0 := w) rfl _ _ _ rfl _ _ bV _ _ _ _ rfl (hox.alloc _) _ _ _ ([UInt8.ofNat (n * 8 / 65536)].map bv) rfl rfl (Bs.yQ wr _ ?_).2 aJ ?_ ?_ (hbx.alloc hbx.size _) ?_ ?_; rotate_right; intro A2 c2 w2 YU YV YW YX)
     ·go_roundw
      case rel => exact ⟨6, A2, c2, rfl, Om, rfl, YV, (Own.app (ys := [UInt8.ofNat (n * 8 / 65536)]) YU).congr rfl (by rw [List.append_assoc]; rfl)⟩
      case measure => simp [lenOf]; omega
     ·simp_all
     ·omega
     ·omega
     have := hbx.size; simp; omega
    ·go_wp2_with (at_builtin; refine fL (w0 := w) rfl _ _ _ rfl _ _ bV _ _ _ _ rfl (hox.alloc _) _ _ _ ([UInt8.ofNat (n * 8 / 256)].map bv) rfl rfl (Bs.yQ wr _ ?_).2 aJ ?_ ?_ (hbx.alloc hbx.size _) ?_ ?_; rotate_right; intro A2 c2 w2 YU YV YW YX)
     ·go_roundw
      case rel => exact ⟨7, A2, c2, rfl, Om, rfl, YV, (Own.app (ys := [UInt8.ofNat (n * 8 / 256)]) YU).congr rfl (by rw [List.append_assoc]; rfl)⟩
      case measure => simp [lenOf]; omega
     ·simp_all
     ·omega
     ·omega
     have := hbx.size; simp; omega
    go_wp2_with (at_builtin; refine fL (w0 := w) rfl _ _ _ rfl _ _ bV _ _ _ _ rfl (hox.alloc _) _ _ _ ([UInt8.ofNat (n * 8)].map bv) rfl rfl (Bs.yQ wr _ ?_).2 aJ ?_ ?_ (hbx.alloc hbx.size _) ?_ ?_; rotate_right; intro A2 c2 w2 YU YV YW YX)
    ·go_roundw
     case rel => exact ⟨8, A2, c2, rfl, Om, rfl, YV, (Own.app (ys := [UInt8.ofNat (n * 8)]) YU).congr rfl (by rw [List.append_assoc]; rfl)⟩
     case measure => simp [lenOf]; omega
    ·simp_all
    ·omega
    ·omega
    have := hbx.size; simp; omega
   obtain rfl : j = 8 := Om
   go_wp2
   go_ret
   refine ⟨A1, c1, ?_, hox.congr Om (by rw [HK.out]; rfl), hbx⟩
   show Ending.returned (.slice A1 (1 + k + 8) c1) = _
   rw [show 1 + k + 8 = 9 + Sha.cv n from Om]
theorem Te : (Tryz.prog.info? 256).map (fun i => i.zero.map (·.cells)) = some (some (dc (iX 32))) := by kernel_rfl
theorem Py : (Tryz.prog.info? 256).map (·.size) = some 32 := by kernel_rfl
theorem Hf (l : List Nat) : (l.flatMap Sha.uV).length = 4 * l.length := by
 induction l with
 | nil => rfl
 | cons x l ih => rw [List.flatMap_cons, List.length_append, ih, List.length_cons]; show 4 + _ = _; omega
theorem Qf {base c b off : Nat} {A : Oa} (h : Own w base A n c xs) (hA : A = some ⟨b, off, none⟩) : base ≤ b ∧ b < w.heap.size := by subst hA;exact World.ownsRow.lt h b rfl
theorem O8 (A : Oa) (n c : Nat) (xs : Lb) (w : aa9) (ha : Bs w A n xs) (hn : n ≤ 35184372088832) :
    Calls Tryz.prog 217 #[.slice A n c] w fun e w' => e = .returned (.agg (dc (Sha.sum xs))) ∧ Below w.heap.size w w' := by
  have HA := Lib.hid ha;clear ha;go_enter func217, ntmps217
  go_wp2_with (first
    | (refine dY rfl _ rfl _ Te w.heap.size rfl ?_
       obtain ⟨w0, Zc⟩ : ∃ w0, w0 = w.alloc (.cells (dc (iX 32)) 256) := ⟨_, rfl⟩
       rw [← Zc]
       have B0 : Hid (Below w.heap.size w w0) := by rw [Zc]; exact (Below.refl _ _).alloc (Nat.le_refl _) _
       have K0 : Hid (aq w0 w.heap.size 256 (dc (iX 32))) := by rw [Zc]; exact aq.new w _ _
       clear Zc)
    | fail)
  refine zH 0 (fun a' w' => ∃ u0 u1 u5 u6 u7 u8 u9 Zk Zl Zm Zn Zo Zp u16 Zq Zr Zs Zt Zu Zv Zw Zx Zy Zz ZA ZB ZC ZD ZE u32 ZF ZG ZH ZI ZJ ZK ZL ZM ZN ZO ZP ZQ ZR ZS ZT ZU ZV ZW ZX ZY ZZ Z0 Z1, ∃ (g1 k m c' : Nat) (A' : Oa),
      a' = { tmps := #[u0, u1, .pointer (some ⟨w.heap.size, 0, none⟩), .pointer (cf g1), .slice A' m c', u5, u6, u7, u8, u9, Zk, Zl, Zm, Zn, Zo, Zp, u16, Zq, Zr, Zs, Zt, Zu, Zv, Zw, Zx, Zy, Zz, ZA, ZB, ZC, ZD, ZE, u32, ZF, ZG, ZH, ZI, ZJ, ZK, ZL, ZM, ZN, ZO, ZP, ZQ, ZR, ZS, ZT, ZU, ZV, ZW, ZX, ZY, ZZ, Z0, Z1], defers := [] }
      ∧ m ≤ c' ∧ 64 * k + m = (xs ++ Sha.pad xs.length).length ∧ w.heap.size < g1 ∧ (∀ b off, A' = some ⟨b, off, none⟩ → b ≠ g1) ∧ Below w.heap.size w w' ∧ aq w' w.heap.size 256 (dc (iX 32))
      ∧ aq w' g1 284 (aM .u32 (Sha.blocks Sha.IV (xs ++ Sha.pad xs.length) k).list) ∧ Bs w' A' m ((xs ++ Sha.pad xs.length).drop (64 * k))) (fun a' _ => lenOf (a'.tmps.getD 4 undef)) rfl ?_ ?_
  · rintro a' w' ⟨u0, u1, u5, u6, u7, u8, u9, Zk, Zl, Zm, Zn, Zo, Zp, u16, Zq, Zr, Zs, Zt, Zu, Zv, Zw, Zx, Zy, Zz, ZA, ZB, ZC, ZD, ZE, u32, ZF, ZG, ZH, ZI, ZJ, ZK, ZL, ZM, ZN, ZO, ZP, ZQ, ZR, ZS, ZT, ZU, ZV, ZW, ZX, ZY, ZZ, Z0, Z1, g1, k, m, c', A', rfl, hmc, hkm, Z2, hne, hbw, Z5, Z6, hbs⟩
    have HB := Lib.hid hbw; have Y2 := Lib.hid Z5; have Zd := Lib.hid Z6; have HS := Lib.hid hbs; have HNE := Lib.hid hne; have HKM := Lib.hid hkm;have hpm : (xs ++ Sha.pad xs.length).length % 64 = 0 := by rw [List.length_append]; exact Sha.kU _
    have hmod : m % 64 = 0 := Om
    clear hbw Z5 Z6 hbs hne hkm hpm;by_cases hm : 0 < m
    · have Zf : 64 ≤ m := Om
      have hmi : (64 : Int) ≤ (m : Int) := Om
      have hci : (64 : Int) ≤ (c' : Int) := Om
      obtain ⟨b, off, rfl, _⟩ := HS.out.get hm;have hbg : b ≠ g1 := HNE.out b off rfl;go_wp2_with fail;refine (Mg _ c' _ g1 _ _ (HS.out.take Zf) (Sha.gW Sha.rD _ _) Zd.out).mono ?_;rintro e Y3 ⟨rfl, Z7, hgr⟩;have Z8 : Hid (aq Y3 g1 284 (aM .u32 (Sha.blocks Sha.IV (xs ++ Sha.pad xs.length) (k + 1)).list)) := Z7;have HC := HS.out.grown hgr HNE.out
      have HCA : c' = 64 → Bs Y3 (some ⟨b, off, none⟩) (m - 64) ((xs ++ Sha.pad xs.length).drop (64 * (k + 1))) := fun h => by have h := HC.RV (k := 64) Om (some ⟨b, off, none⟩);rw [List.drop_drop] at h;exact h
      have HCB : Bs Y3 (some ⟨b, off + 64, none⟩) (m - 64) ((xs ++ Sha.pad xs.length).drop (64 * (k + 1))) := by have h := HC.xM 64;rw [List.drop_drop] at h;exact h
      have HA2 := Lib.hid HCA; have HB3 := Lib.hid HCB;clear HC HCA HCB;have HB2 : Hid (Below w.heap.size w Y3) := rJ HB.out hgr Om HB.out.size;have HK3 : Hid (aq Y3 w.heap.size 256 (dc (iX 32))) := Y2.out.grown hgr (by grind);clear Z7 hgr HB Y2 Zd HS HNE;go_wp2
      · go_step3
        refine ⟨rfl, ⟨_, _, _, _, _, _, _, _, _, _, _, _, _, _, _, _, _, _, _, _, _, _, _, _, _, _, _, _, _, _, _, _, _, _, _, _, _, _, _, _, _, _, _, _, _, _, _, _, _, _, _, _, _, g1, k + 1, m - 64, 0, _, rfl, Om, by have := HKM.out; omega, Z2, ?_, HB2.out, HK3.out, Z8.out, HA2.out Om⟩, ?_⟩
        · grind
        simp [lenOf]; omega
      go_step3;refine ⟨rfl, ⟨_, _, _, _, _, _, _, _, _, _, _, _, _, _, _, _, _, _, _, _, _, _, _, _, _, _, _, _, _, _, _, _, _, _, _, _, _, _, _, _, _, _, _, _, _, _, _, _, _, _, _, _, _, g1, k + 1, m - 64, c' - 64, _, rfl, Om, by have := HKM.out; omega, Z2, ?_, HB2.out, HK3.out, Z8.out, HB3.out⟩, ?_⟩
      · intro b' off' h; injection h with h; injection h with h _ _; omega
      simp [lenOf]; omega
    have hfin : aq w' g1 284 (aM .u32 (Sha.blocks Sha.IV (xs ++ Sha.pad xs.length) ((xs ++ Sha.pad xs.length).length / 64)).list) := by have h := Zd.out;rw [show k = (xs ++ Sha.pad xs.length).length / 64 from by have := HKM.out; omega] at h;exact h
    obtain ⟨S, hS⟩ : ∃ S, Hid (S = Sha.blocks Sha.IV (xs ++ Sha.pad xs.length) ((xs ++ Sha.pad xs.length).length / 64)) := ⟨_, rfl⟩
    rw [← hS.out] at hfin;have hok : S.ok := by rw [hS.out]; exact Sha.gW Sha.rD _ _
    have HF := Lib.hid hfin; have HOK := Lib.hid hok;have hsz := HB.out.size;have hszlt := Y2.out.lt;clear hfin hok Zd HS HNE;obtain rfl : m = 0 := Om
    go_wp2_with (first
      | (refine dY rfl _ rfl _ Te w'.heap.size rfl ?_
         obtain ⟨w5, YY⟩ : ∃ w5, w5 = w'.alloc (.cells (dc (iX 32)) 256) := ⟨_, rfl⟩
         rw [← YY]
         have HB5 : Hid (Below w.heap.size w w5) := by rw [YY]; exact HB.out.alloc hsz _
         have K5 : Hid (aq w5 w'.heap.size 256 (dc (iX 32))) := by rw [YY]; exact aq.new w' _ _
         have K6 : Hid (aq w5 w.heap.size 256 (dc (iX 32))) := by rw [YY]; exact Y2.out.alloc _
         have K7 : Hid (aq w5 g1 284 (aM .u32 S.list)) := by rw [YY]; exact HF.out.alloc _
         clear YY)
      | refine pM rfl _ (.tmp 3) rfl g1 rfl _ _ _ K7.out underlying284 rfl 8 s8 rfl ?_)
    have hsz5 : w.heap.size ≤ w'.heap.size := hsz;have Zg : S.list.length = 8 := rfl
    obtain ⟨l, hl⟩ : ∃ l, Hid (l = S.list) := ⟨_, rfl⟩
    rw [← hl.out] at K7 Zg ⊢;have OKL : Hid (∀ i, l.getD i 0 < 4294967296) := by rw [hl.out]; exact Nz HOK.out
    have YZ := Lib.hid Zg;clear Zg HF Y2 HB B0 K0;go_loopw [6, 7, 24] (fun _ _ i wr => ∃ k : Nat, k ≤ 8 ∧ i = .int .i64 k ∧ Below w.heap.size w wr ∧ aq wr w.heap.size 256 (dc (iX 32)) ∧ aq wr w'.heap.size 256 (dc ((l.take k).flatMap Sha.uV ++ iX (32 - 4 * k)))) (fun _ _ i _ => 8 - (intOf i).toNat);case atStart => exact ⟨0, Om, rfl, HB5.out, K6.out, K5.out⟩
    case round =>
      obtain ⟨k, hk, rfl, hb, hx0, hx1⟩ := hrel
      have HX := Lib.hid hb; have Zh := Lib.hid hx0; have YU := Lib.hid hx1
      clear hb hx0 hx1 HB5 K5 K6
      by_cases hlt : k < 8
      · obtain ⟨q, hq⟩ : ∃ q, Hid (q = l.getD k 0) := ⟨_, rfl⟩
        have hql : q < 4294967296 := by rw [hq.out]; exact OKL.out _
        have hidx := fun (W : aa9) => uO (P := Tryz.prog) (w := W) (k := .i64) underlying284 underlying227 UY hlt (by rw [dQ .u32 l k (by rw [YZ.out]; exact hlt), ← hq.out] : (aM .u32 l)[k]? = some (.int .u32 (q : Int)))
        have hlen : ((l.take k).flatMap Sha.uV).length = 4 * k := by rw [Hf, List.length_take, YZ.out]; omega
        have HLN := Lib.hid hlen
        have c0 : wr.cell? ⟨w'.heap.size, 4 * k, none⟩ = some (.int .u8 0) := by rw [YU.out.cell]; exact o0 Om Om
        have c1 : wr.cell? ⟨w'.heap.size, 4 * k + 1, none⟩ = some (.int .u8 0) := by rw [YU.out.cell]; exact o0 Om Om
        have c2 : wr.cell? ⟨w'.heap.size, 4 * k + 2, none⟩ = some (.int .u8 0) := by rw [YU.out.cell]; exact o0 Om Om
        have c3 : wr.cell? ⟨w'.heap.size, 4 * k + 3, none⟩ = some (.int .u8 0) := by rw [YU.out.cell]; exact o0 Om Om
        have f0 := YU.out.frozen (4 * k); have f1 := YU.out.frozen (4 * k + 1); have f2 := YU.out.frozen (4 * k + 2); have f3 := YU.out.frozen (4 * k + 3)
        clear hlen
        go_wp2
        go_roundw
        case rel =>
          refine ⟨k + 1, Om, by go_num, (((HX.out.setCell (by show _ ≤ w'.heap.size; omega) _).setCell (by show _ ≤ w'.heap.size; omega) _).setCell (by show _ ≤ w'.heap.size; omega) _).setCell (by show _ ≤ w'.heap.size; omega) _, (((Zh.out.Fq (by show _ ≠ w'.heap.size; omega) _).Fq (by show _ ≠ w'.heap.size; omega) _).Fq (by show _ ≠ w'.heap.size; omega) _).Fq (by show _ ≠ w'.heap.size; omega) _, ?_⟩
          have e : (l.take (k + 1)).flatMap Sha.uV ++ iX (32 - 4 * (k + 1)) = (((((l.take k).flatMap Sha.uV ++ [UInt8.ofNat (q / 16777216)]) ++ [UInt8.ofNat (q / 65536)]) ++ [UInt8.ofNat (q / 256)]) ++ [UInt8.ofNat q]) ++ iX (28 - 4 * k) := by
            rw [List.take_succ_eq_append_getElem (by rw [YZ.out]; exact hlt), List.flatMap_append, show 32 - 4 * (k + 1) = 28 - 4 * k from Om];have : l[k]'(by rw [YZ.out]; exact hlt) = q := by rw [hq.out]; simp [YZ.out, hlt]
            rw [this];simp [Sha.uV]
          rw [e]
          refine aq.EP (m := 29 - 4 * k) (aq.EP (m := 30 - 4 * k) (aq.EP (m := 31 - 4 * k) (aq.EP (m := 32 - 4 * k) YU.out HLN.out.symm Om ?_) ?_ Om ?_) ?_ Om ?_) ?_ Om ?_
          · exact kf Om Om Om
          · simp [HLN.out]
          · exact kf Om Om Om
          · simp [HLN.out]
          · exact kf Om Om Om
          · simp [HLN.out]
          exact kf Om Om Om
        case measure => simp [intOf]; omega
      have hfin : aq wr w'.heap.size 256 (dc (Sha.sum xs)) := by have h := YU.out;rw [show k = 8 from Om, List.take_of_length_le (by rw [YZ.out]; omega)] at h;rw [show l.flatMap Sha.uV ++ iX (32 - 4 * 8) = Sha.sum xs from by rw [hl.out, hS.out]; exact List.append_nil _] at h;exact h
      go_wp2_with (first
        | refine pM rfl _ (.tmp 5) rfl w'.heap.size rfl _ _ _ hfin underlying256 rfl 32 Py rfl ?_
        | refine eY rfl _ (.tmp 2) (.tmp 55) rfl w.heap.size (dc (Sha.sum xs)) rfl rfl _ _ Zh.out 32 Py rfl rfl (mY _) ?_)
      simp only [Exit.jump]
      exact sD rfl w.heap.size _ _ _ rfl (Zh.out.row _) underlying256 rfl 32 Py rfl rfl ⟨rfl, iu HX.out (Nat.le_refl _) _⟩
  intro hp;have HP := Lib.hid hp;clear hp
  go_wp2_with (first
    | (go_at_call 246; refine (Iy _).mono ?_; rintro e w1 ⟨rfl, Ze⟩
       have hz1 : w.heap.size < w1.heap.size := Nat.lt_of_lt_of_le K0.out.lt Ze.size
       have B1 : Hid (Below w.heap.size w w1) := B0.out.trans (Ze.mono B0.out.size)
       have K1 : Hid (aq w1 w.heap.size 256 (dc (iX 32))) := K0.out.kept Ze
       clear Ze B0 K0)
    | (refine dY rfl _ rfl _ z8 w1.heap.size rfl ?_)
    | (refine eY rfl _ (.tmp 3) (.tmp 8) rfl w1.heap.size (aM .u32 Sha.H0) rfl rfl _ _ (aq.new w1 _ _) 8 s8 rfl rfl (cZ _ _) ?_
       obtain ⟨w2, Za⟩ : ∃ w2, w2 = (w1.alloc (.cells (aM .u32 (me 8)) 284)).setRow w1.heap.size (aM .u32 Sha.H0) := ⟨_, rfl⟩
       rw [← Za]
       have K2 : Hid (aq w2 w1.heap.size 284 (aM .u32 Sha.IV.list)) := by rw [Za]; exact (aq.new w1 _ _).row _
       have J2 : Hid (aq w2 w.heap.size 256 (dc (iX 32))) := by rw [Za]; exact (K1.out.alloc _).jU Om _
       have B2 : Hid (Below w.heap.size w w2) := by rw [Za]; exact iu (B1.out.alloc Om _) Om _
       clear Za B1 K1)
    | fail)
  have hw12 : w1.heap.size < w2.heap.size := K2.out.lt;refine (kF A n c xs _ (HA.out.below B2.out) Om).mono ?_;rintro e w3 ⟨A3, c3, rfl, YV, Zb⟩;have O3 := Lib.hid YV; have K3 : Hid (aq w3 w1.heap.size 284 (aM .u32 Sha.IV.list)) := K2.out.kept Zb;have J3 : Hid (aq w3 w.heap.size 256 (dc (iX 32))) := J2.out.kept Zb;have B3 : Hid (Below w.heap.size w w3) := B2.out.trans (Zb.mono B2.out.size);have hs3 := Zb.size;clear Zb YV K2 J2 B2;go_wp2_with fail;refine (LB n _ Om).mono ?_;rintro e w4 ⟨A4, c4, rfl, YW, Y0⟩;have Zi : Hid (Own w4 w2.heap.size A3 n c3 xs) := O3.out.below Y0;have O4 : Hid (Own w4 w3.heap.size A4 (9 + Sha.cv n) c4 (Sha.pad n)) := YW;have K4 : Hid (aq w4 w1.heap.size 284 (aM .u32 Sha.IV.list)) := K3.out.kept Y0;have J4 : Hid (aq w4 w.heap.size 256 (dc (iX 32))) := J3.out.kept Y0;have B4 : Hid (Below w.heap.size w w4) := B3.out.trans (Y0.mono B3.out.size);have hs4 := Y0.size;have hzz : Sha.cv n < 64 := Nat.mod_lt _ Om;clear Y0 YW O3 K3 J3 B3;go_wp2_with (at_builtin; refine fL (w0 := w4) rfl _ _ _ rfl _ _ bV w2.heap.size _ _ _ rfl Zi.out _ _ _ ((Sha.pad n).map bv) rfl (by rw [List.length_map]; exact O4.out.len) O4.out.bs.2 aJ ?_ ?_ (Below.refl _ _) ?_ ?_; rotate_right; intro A5 c5 w5 YX Zj hg5 hl5)
  · go_step3
    have hL : 64 * 0 + (n + (9 + Sha.cv n)) = (xs ++ Sha.pad xs.length).length := by rw [List.length_append, Sha.cJ, HA.out.1]; omega
    have O5 : Own w5 w2.heap.size A5 (n + (9 + Sha.cv n)) c5 (xs ++ Sha.pad xs.length) := by have := Own.app (ys := Sha.pad n) YX;rw [HA.out.1]; exact this
    simp only [Exit.then];rename_i hk;refine hk _ _ ?_;refine HP.out _ _ ⟨_, _, _, _, _, _, _, _, _, _, _, _, _, _, _, _, _, _, _, _, _, _, _, _, _, _, _, _, _, _, _, _, _, _, _, _, _, _, _, _, _, _, _, _, _, _, _, _, _, _, _, _, _, w1.heap.size, 0, _, c5, A5, rfl, ?_, hL, hz1, ?_, ?_, ?_, ?_, ?_⟩
    · exact EL YX
    · exact fun b off he => by have := Qf O5 he; omega
    · exact B4.out.trans (Zj.mono Om)
    · exact (J4.out.grown hg5 (by have := Zi.out.lt; intro h; have := this _ h.symm; omega))
    · exact (K4.out.grown hg5 (by have := Zi.out.lt; intro h; have := this _ h.symm; omega))
    exact O5.bs
  · omega
  · omega
  omega
set_option maxRecDepth 100000 in
theorem GZ (w : aa9) : Ct 120 #[] w fun e w' => ∃ g1 g2, e = .returned (.tuple #[.slice (cf g1) 8 8, .slice (cf g2) 64 64]) ∧ Ns .u64 w' (cf g1) 8 Sha.H0 ∧ Ns .u64 w' (cf g2) 64 Sha.K ∧ Below w.heap.size w w' := by
 go_enter func120, ntmps120;go_wp2;go_ret2;refine ⟨_, _, rfl, ?_, ?_, ((Below.refl _ _).alloc (Nat.le_refl _) _).alloc (by simp) _⟩
 ·refine Ns.below (w := w.alloc _) ?_ ((Below.refl _ _).alloc (Nat.le_refl _) _);exact QW (w := w) Sha.H0 _ rfl rfl
 have h := QW (w := w.alloc (.cells (aM .u64 Sha.H0) 38)) (t := 38) (k := .u64) Sha.K (aM .u64 Sha.K) rfl rfl (n := 64);rw [World.size_alloc] at h;exact h
theorem il (A : Oa) (n c : Nat) (xs : Lb) (w : aa9) (ha : Bs w A n xs) (hn : n ≤ 35184372088832) :
    Ct 52 #[.slice A n c] w fun e w' => ∃ A' c', e = .returned (.slice A' 32 c') ∧ Own w' w.heap.size A' 32 c' (Sha.sum xs) ∧ Below w.heap.size w w' := by
  have HA := Lib.hid ha;clear ha;go_enter func52, ntmps52
  go_wp2_with (first
    | (go_at_call 120; refine (GZ _).mono ?_; rintro e w1 ⟨g1, g2, rfl, h1, h2, YV⟩
       have H1 := Lib.hid h1; have H2 := Lib.hid h2; have YU := Lib.hid YV
       clear h1 h2 YV)
    | (go_at_call 121; refine (MY A _ _ n c _ _ xs _ (HA.out.below YU.out) hn H1.out H2.out).mono ?_; rintro e w2 ⟨A2, c2, rfl, YW, YX⟩
       have YY := Lib.hid YW
       have YZ : Hid (Below w.heap.size w w2) := YU.out.trans (YX.mono YU.out.size)
       have Y0 := YU.out.size
       clear YW YX))
  go_ret;exact ⟨A2, c2, rfl, YY.out.lower Y0, YZ.out⟩
theorem wP (A : Oa) (n c : Nat) (xss : List (List UInt8)) (w : aa9) (ha : sL w A n xss) (hn : n ≤ 35184372088832) (hlen : xss.flatten.length ≤ 35184372088832) :
    Ct 161 #[.slice A n c] w fun e w' => ∃ g, e = .returned (.slice (cf g) 32 32) ∧ w.heap.size ≤ g ∧ aq w' g 256 (dc (Sha.sum xss.flatten)) ∧ Below w.heap.size w w' := by
  have HA := Lib.hid ha;clear ha;go_enter func161, ntmps161
  go_wp2_with (first
    | (go_at_call 184; refine (ir A n c xss _ HA.out Om Om).mono ?_; rintro e w1 ⟨A1, m1, c1, rfl, YV, YW⟩
       have YZ := Lib.hid YV; have YX := Lib.hid YW
       have Y0 : m1 ≤ 35184372088832 := by have := YV.len; omega
       clear YV YW)
    | (go_at_call 217; refine (O8 A1 m1 c1 xss.flatten _ YZ.out.bs Y0).mono ?_; rintro e w2 ⟨rfl, YY⟩
       have YU : Hid (Below w.heap.size w w2) := YX.out.trans (YY.mono YX.out.size)
       clear YY)
    | refine dY rfl _ rfl _ Te w2.heap.size rfl ?_
    | refine eY rfl _ (.tmp 3) (.tmp 6) rfl w2.heap.size (dc (Sha.sum xss.flatten)) rfl rfl _ _ (aq.new w2 _ _) 32 Py rfl rfl (mY _) ?_)
  go_ret;exact ⟨w2.heap.size, rfl, YU.out.size, (aq.new w2 _ _).row _, iu (YU.out.alloc YU.out.size _) YU.out.size _⟩
theorem xor_zero (a b : Nat) : a ^^^ b = 0 ↔ a = b := by
 constructor
 ·intro h;have : (a ^^^ b) ^^^ b = 0 ^^^ b := by rw [h]
  rw [Nat.xor_assoc, Nat.xor_self] at this;simpa using this
 rintro rfl; simp
theorem xq {k d : Nat} (hx : xs.length = n) (hy : ys.length = n) (hk : k < n) (h : d = 0 ↔ xs.take k = ys.take k) :
  (d ||| ((xs.getD k 0).toNat ^^^ (ys.getD k 0).toNat) = 0) ↔ xs.take (k + 1) = ys.take (k + 1) := by
 rw [List.take_succ_eq_append_getElem Om, List.take_succ_eq_append_getElem Om];have e1 : xs.getD k 0 = xs[k] := by simp [show k < xs.length by omega]
 have e2 : ys.getD k 0 = ys[k] := by simp [show k < ys.length by omega]
 rw [e1, e2, Nat.or_eq_zero_iff, h, xor_zero];constructor
 ·rintro ⟨h1, h2⟩;rw [h1, UInt8.toNat_inj.1 h2]
 intro hh;have := List.append_inj hh So;exact ⟨this.1, by have := this.2; simp at this; rw [this]⟩
theorem zN (A B : Oa) (n m c d : Nat) (xs ys : Lb) (w : aa9) (HA : Bs w A n xs) (HB : Bs w B m ys) (hn : n ≤ 140737488355328) (hm : m ≤ 140737488355328) :
  Ct 44 #[.slice A n c, .slice B m d] w (ck w (.bool (decide (xs = ys)))) := by
 refine ai 31 func44 ?_;intro _ aa4;refine aa1 (fun YU => ?_) (fun YU => ?_)
 ·refine aU ?_;exact aa4 rfl ⟨by rw [decide_eq_false]; intro h; exact YU (by rw [← HA.1, ← HB.1, h]), Ext.refl _⟩
 have hnm : n = m := Om
 refine aU ?_;refine aE (fun n' L wr => ∃ k D : Nat, L = [(0, .slice A n c), (1, .slice B m d), (5, .int .u8 (D : Int)), (13, .int .i64 (n : Int)), (14, .int .i64 (k : Int))] ∧ n' = n - k ∧ (k ≤ n ∧ D < 256 ∧ Ext w wr ∧ (D = 0 ↔ xs.take k = ys.take k))) _ _ ⟨0, 0, rfl, rfl, Nat.zero_le _, Om, Ext.refl _, by simp⟩ Ls ?_;rintro _ n' L wr ⟨k, D, rfl, rfl, _, hD, E, hI⟩ YV;refine aa1 (fun YW => ?_) (fun YW => ?_)
 ·refine aU ?_;obtain ⟨b, off, x, rfl, hx, hcx⟩ := (HA.ext E).byte (k := k) Om;obtain ⟨b', YX, y, rfl, hy, hcy⟩ := (HB.ext E).byte (k := k) Om;refine aD Kr 12 rfl ?_; intro Y0 ex Y2;have YY := x.toNat_lt; have YZ := y.toNat_lt;replace hcx := (ex.cell (dR hcx)).trans hcx; replace hcy := (ex.cell (dR hcy)).trans hcy;refine zm [0, 1, 2, 3] ?_;refine my 4 rfl (ah rfl Tn.u rfl hcx) ?_;refine zm [5, 6, 7] ?_;refine my 8 rfl (ah rfl Tn.u rfl hcy) ?_;refine my 9 rfl (bO rfl rfl (bJ Om Om).2.2) ?_;have hxl := Nat.xor_lt_two_pow (n := 8) YY YZ; have hlt := Nat.or_lt_two_pow (n := 8) hD hxl;refine my 10 rfl (jZ rfl rfl (bJ Om Om).2.1) ?_;refine BL [11] ?_;refine au 10 ?_;refine ae ?_;refine YV _ _ ⟨k + 1, _, rfl, rfl, Om, hlt, E.tr ex, by rw [hx.out, hy.out]; exact xq HA.1 (by rw [HB.1, hnm]) Om hI⟩ Om Ls
 refine aU ?_;exact aa4 rfl ⟨dZ (by rw [List.take_of_length_le (by rw [HA.1]; omega), List.take_of_length_le (by rw [HB.1]; omega)] at hI; rw [← hI]; omega), E⟩
theorem copied {t : TypeId} (ks : Lb) (hk : ks.length ≤ 64) (h : aq w g t ((List.replicate 64 (Value.int .u8 0)).toArray.toList.take 0 ++ ks.map bv ++ (List.replicate 64 (Value.int .u8 0)).toArray.toList.drop (0 + (ks.map bv).length)).toArray) :
  aq w g t (dc (ks ++ iX (64 - ks.length))) := by
 have e : (List.replicate 64 (Value.int .u8 0)).toArray.toList.take 0 ++ ks.map bv ++ (List.replicate 64 (Value.int .u8 0)).toArray.toList.drop (0 + (ks.map bv).length) = (ks ++ iX (64 - ks.length)).map bv := by rw [List.toList_toArray, List.take_zero, List.nil_append, List.drop_replicate, List.length_map, Nat.zero_add, List.map_append];unfold iX;rw [List.map_replicate];rfl
 rw [e] at h;exact h
theorem zj (l : Lb) (c : UInt8) (k : Nat) (hk : k < l.length) : ((l.take k).map (· ^^^ c) ++ l.drop k).set k (l.getD k 0 ^^^ c) = (l.take (k + 1)).map (· ^^^ c) ++ l.drop (k + 1) := by
 have hl : ((l.take k).map (· ^^^ c)).length = k := by simp; omega
 rw [List.set_append_right _ _ Om, hl, Nat.sub_self, List.drop_eq_getElem_cons hk, List.set_cons_zero, List.take_succ_eq_append_getElem hk, List.map_append, List.append_assoc];simp [hk]
theorem EJ (l : Lb) (c : UInt8) (k : Nat) (hk : k < l.length) : ((l.take k).map (· ^^^ c) ++ l.drop k).getD k 0 = l.getD k 0 := by
 have hl : ((l.take k).map (· ^^^ c)).length = k := by simp; omega
 have h2 := List.getElem?_append_right (l₁ := (l.take k).map (· ^^^ c)) (l₂ := l.drop k) (i := k) Om;rw [List.getD_eq_getElem?_getD, h2, hl, Nat.sub_self];simp [hk]
theorem Ar (A : Oa) (n c : Nat) (xs : Lb) (x : UInt8) (w : aa9) (HA : Bs w A n xs) (hn : n ≤ 35184372088832) :
  Ct 185 #[.slice A n c, .int .u8 (x.toNat : Int)] w fun e w' => ∃ g, e = .returned (.slice (cf g) 64 64) ∧ w.heap.size ≤ g ∧ aq w' g 5 (dc (Mac.held xs x)) ∧ Ext w w' := by
 have YV : ∀ ks : List UInt8, ks = (if 64 < n then Sha.sum xs else xs) → ks ++ iX (64 - ks.length) = Mac.Ec xs := fun ks h => by rw [h]; unfold Mac.Ec; simp only [HA.1]
 have hx := x.toNat_lt
 obtain ⟨X, hX⟩ : ∃ X, X = Mac.Ec xs := ⟨_, rfl⟩
 have hXl : X.length = 64 := by rw [hX]; exact Mac.oT _
 refine ai 31 func185 ?_;intro _ aa4;have HK := HA; have E := Ext.refl w;refine aa1 (fun YZ => ?_) (fun YZ => ?_)
 ·refine aU ?_;refine af (aF (t := 127) Tn.u (z := .slice none 0 0) Kr rfl rfl rfl rfl rfl) rfl ?_;rintro _ _ ⟨_, rfl, B1, _, ex⟩;replace HK := HK.ext ex;have E1 := ex;refine aB func161 rfl (wP _ 1 1 [xs] _ (nE B1 HK) Om (by simp [HA.1]; omega)) ?_;rintro e _ ⟨_, rfl, _, B2, ex⟩;replace HK := HK.ext ex;replace E := E1.tr ex;replace HK := aX B2 (Sha.bT _);refine aU ?_;refine af (dC (n := 64) (z := .int .u8 0) (bytes := 1) rfl rfl Tn.u Kr rfl rfl Om Om Om Om) rfl ?_;rintro _ w3 ⟨g3, rfl, B3, YW, ex⟩;replace HK := HK.ext ex;have YU : w.heap.size ≤ g3 := Nat.le_trans E.size YW; replace E := E.tr ex;refine aU ?_;refine af (iy rfl rfl Tn.u Kr B3 HK.2 (by rw [List.length_map, HK.1]; rfl) (by rw [List.length_map, HK.1]; simp) aJ) rfl ?_;rintro _ w4 ⟨rfl, B4, cg⟩;have B5 := copied _ (by rw [HK.1]; omega) B4; rw [YV _ (by rw [if_pos Om]; simp), ← hX] at B5; have E5 := E.aw cg YU;refine aU ?_;refine aE (fun n' L wr => ∃ k : Nat, L = [(1, .int .u8 (x.toNat : Int)), (5, .slice (cf g3) 64 64), (18, .int .i64 64), (19, .int .i64 (k : Int))] ∧ n' = 64 - k ∧ (k ≤ 64 ∧ Ext w wr ∧ aq wr g3 5 (dc ((X.take k).map (· ^^^ x) ++ X.drop k)))) _ _ ⟨0, rfl, rfl, Om, E5, by simpa using B5⟩ Ls ?_;rintro Y0 n' L wr ⟨k, rfl, rfl, hk, E6, B6⟩ YX;refine aa1 (fun YY => ?_) (fun YY => ?_)
  ·have hxk := (X.getD k 0).toNat_lt;refine au 14 ?_;refine ak (ah rfl Tn.u rfl (B6.get (by rw [Nat.zero_add, lB So, EJ X x k Om]))) ?_;refine au 1 ?_;refine ak (bO rfl rfl (bJ Om Om).2.2) ?_;refine au 1 ?_;refine af (az rfl rfl rfl Kr B6 (by rw [aV]; simp; omega)) rfl ?_;rintro _ w5 ⟨rfl, B7, cg⟩;have B8 := B7.congr (cs' := dc ((X.take (k + 1)).map (· ^^^ x) ++ X.drop (k + 1))) (by rw [Nat.zero_add, ← zj X x k Om, ← ng, UInt8.toNat_xor]); have E7 := E6.aw cg YU;refine au 7 ?_;refine ae ?_;refine YX _ _ ⟨k + 1, rfl, rfl, Om, E7, B8⟩ Om Ls
  refine aU ?_;exact aa4 rfl ⟨g3, rfl, YU, B6.congr (by rw [show k = 64 from Om, List.take_of_length_le Om, List.drop_of_length_le Om, List.append_nil, hX]; rfl), E6⟩
 refine aU ?_;refine af (dC (n := 64) (z := .int .u8 0) (bytes := 1) rfl rfl Tn.u Kr rfl rfl Om Om Om Om) rfl ?_;rintro _ w3 ⟨g3, rfl, B3, YW, ex⟩;replace HK := HK.ext ex;have YU : w.heap.size ≤ g3 := Nat.le_trans E.size YW; replace E := E.tr ex;refine aU ?_;refine af (iy rfl rfl Tn.u Kr B3 HK.2 (by rw [List.length_map, HK.1]; exact (Nat.min_eq_left Om).symm) (by rw [List.length_map, HK.1]; simp; omega) aJ) rfl ?_;rintro _ w4 ⟨rfl, B4, cg⟩;have B5 := copied _ (by rw [HK.1]; omega) B4; rw [YV _ (by rw [if_neg Om]), ← hX] at B5; have E5 := E.aw cg YU;refine aU ?_;refine aE (fun n' L wr => ∃ k : Nat, L = [(1, .int .u8 (x.toNat : Int)), (5, .slice (cf g3) 64 64), (18, .int .i64 64), (19, .int .i64 (k : Int))] ∧ n' = 64 - k ∧ (k ≤ 64 ∧ Ext w wr ∧ aq wr g3 5 (dc ((X.take k).map (· ^^^ x) ++ X.drop k)))) _ _ ⟨0, rfl, rfl, Om, E5, by simpa using B5⟩ Ls ?_;rintro Y0 n' L wr ⟨k, rfl, rfl, hk, E6, B6⟩ YX;refine aa1 (fun YY => ?_) (fun YY => ?_)
 ·have hxk := (X.getD k 0).toNat_lt;refine au 14 ?_;refine ak (ah rfl Tn.u rfl (B6.get (by rw [Nat.zero_add, lB So, EJ X x k Om]))) ?_;refine au 1 ?_;refine ak (bO rfl rfl (bJ Om Om).2.2) ?_;refine au 1 ?_;refine af (az rfl rfl rfl Kr B6 (by rw [aV]; simp; omega)) rfl ?_;rintro _ w5 ⟨rfl, B7, cg⟩;have B8 := B7.congr (cs' := dc ((X.take (k + 1)).map (· ^^^ x) ++ X.drop (k + 1))) (by rw [Nat.zero_add, ← zj X x k Om, ← ng, UInt8.toNat_xor]); have E7 := E6.aw cg YU;refine au 7 ?_;refine ae ?_;refine YX _ _ ⟨k + 1, rfl, rfl, Om, E7, B8⟩ Om Ls
 refine aU ?_;exact aa4 rfl ⟨g3, rfl, YU, B6.congr (by rw [show k = 64 from Om, List.take_of_length_le Om, List.drop_of_length_le Om, List.append_nil, hX]; rfl), E6⟩
theorem wS (A B : Oa) (n c m d : Nat) (xs : Lb) (xss : List (List UInt8)) (w : aa9) (HA : Bs w A n xs) (hn : n ≤ 35184372088832) (HB : sL w B m xss) (hm : m ≤ 35184372088832) (hl : xss.flatten.length ≤ 35184372088000) :
  Ct 112 #[.slice A n c, .slice B m d] w fun e w' => ∃ g, e = .returned (.slice (cf g) 32 32) ∧ w.heap.size ≤ g ∧ aq w' g 256 (dc (Mac.tag xs xss.flatten)) ∧ Ext w w' := by
 have E := Ext.refl w;refine ai 19 func112 ?_;intro _ aa4;refine aU ?_;refine aB func185 rfl (Ar A n c xs 54 _ HA hn) ?_;rintro e _ ⟨_, rfl, _, B1, ex⟩;obtain ⟨HA,HB,E⟩ := bh ex HA HB E;have H1 := aX B1 (Mac.iD _ _);refine aU ?_;refine aB func184 rfl (ir B m d xss _ HB Om Om) ?_;rintro e _ ⟨_, _, _, rfl, O2, ex⟩;refine aU ?_;obtain ⟨HA,E,H1⟩ := bh ex HA E H1;have H2 := O2.bs;refine af (aF (z := .slice none 0 0) Tn.u Kr rfl rfl rfl rfl rfl) rfl ?_;rintro _ _ ⟨_, rfl, B3, _, ex⟩;obtain ⟨HA,E,H1,H2⟩ := bG ex HA E H1 H2;have S3 := qj B3 H1 H2;refine aB func184 rfl (ir _ 2 2 [Mac.held xs 54, xss.flatten] _ S3 Om (by simp [Mac.iD]; simp at hl; omega)) ?_;rintro e _ ⟨_, _, _, rfl, O4, ex⟩;refine aU ?_;obtain ⟨HA,E⟩ := aS ex HA E;have H4 := O4.bs;refine af (aF (z := .slice none 0 0) Tn.u Kr rfl rfl rfl rfl rfl) rfl ?_;rintro _ _ ⟨_, rfl, B5, _, ex⟩;obtain ⟨HA,E,H4⟩ := bh ex HA E H4;have S5 := nE B5 H4;refine aB func161 rfl (wP _ 1 1 _ _ S5 Om (by simp [Mac.iD]; simp at hl; omega)) ?_;rintro e _ ⟨_, rfl, _, B6, ex⟩;obtain ⟨HA,E⟩ := aS ex HA E;have H6 := aX B6 (Sha.bT _);refine aU ?_;refine aB func185 rfl (Ar A n c xs 92 _ HA hn) ?_;rintro e _ ⟨_, rfl, _, B7, ex⟩;obtain ⟨E,H6⟩ := aS ex E H6;have H7 := aX B7 (Mac.iD _ _);refine aU ?_;refine af (aF (z := .slice none 0 0) Tn.u Kr rfl rfl rfl rfl rfl) rfl ?_;rintro _ _ ⟨_, rfl, B8, _, ex⟩;obtain ⟨E,H6,H7⟩ := bh ex E H6 H7;have S8 := qj B8 H7 H6; have h8 := E.size;refine aB func161 rfl (wP _ 2 2 _ _ S8 Om (by simp [Mac.iD, Sha.bT])) ?_;rintro e _ ⟨g9, rfl, _, B9, ex⟩;replace E := E.ext ex;refine aU ?_;exact aa4 rfl ⟨g9, rfl, Om, B9.congr (by simp [Mac.tag]), E⟩
theorem Fv (ks xs : Lb) (h : ks = if 64 < xs.length then Sha.sum xs else xs) (k : Nat) : (Mac.Ec xs).getD k 0 = ks.getD k 0 := by
 have e : Mac.Ec xs = ks ++ iX (64 - ks.length) := by rw [h]; rfl
 rw [e, List.getD_eq_getElem?_getD, List.getD_eq_getElem?_getD, List.getElem?_append];by_cases hk : k < ks.length
 ·simp [hk]
 simp only [hk, if_false];rw [List.getElem?_eq_none (by omega : ks.length ≤ k)];simp [iX, List.getElem?_replicate];split <;> simp
theorem iM (X : Lb) (k : Nat) (hk : k < X.length) (c y : UInt8) (hy : X.getD k 0 = y) : (X.take k).map (· ^^^ c) ++ [y ^^^ c] = (X.take (k + 1)).map (· ^^^ c) := by rw [List.take_succ_eq_append_getElem hk, List.map_append];subst hy;simp [hk]
theorem kJ (A B : Oa) (n c m d : Nat) (xs ys : Lb) (w : aa9) (HA : Bs w A n xs) (hn : n ≤ 35184372088832) (HB : Bs w B m ys) (hm : m ≤ 35184372088000) :
  Ct 18 #[.slice A n c, .slice B m d] w fun e w' => ∃ A' c', e = .returned (.slice A' 32 c') ∧ Row w' w.heap.size 5 A' 32 c' ((Mac.tag xs ys).map bv) ∧ Ext w w' := by
 have E := Ext.refl w
 obtain ⟨X, hX⟩ : ∃ X, X = Mac.Ec xs := ⟨_, rfl⟩
 have hXl : X.length = 64 := by rw [hX]; exact Mac.oT _
 refine ai 43 func18 ?_;intro _ aa4;refine aa1 (fun Zs => ?_) (fun Zs => ?_)
 ·refine aU ?_;refine aB func52 rfl (il A n c xs _ HA hn) ?_;rintro e w1 ⟨A1, c1, rfl, O1, ex⟩;obtain ⟨HA,HB,E⟩ := bh ex HA HB E;have HK := O1.bs;refine aU ?_;have hks : ∀ k, X.getD k 0 = (Sha.sum xs).getD k 0 := fun k => by rw [hX]; exact Fv _ _ (by have := HA.1; split <;> first | rfl | omega) k
  refine aE (fun n' L wr => ∃ (k c5 c6 : Nat) (A5 A6 : Oa), L = [(0, .slice A1 32 c1), (1, .slice B m d), (5, .slice A5 k c5), (6, .slice A6 k c6), (7, .int .i64 (k : Int))] ∧ n' = 64 - k ∧ (k ≤ 64 ∧ Ext w1 wr ∧ Row wr w1.heap.size 5 A5 k c5 (((X.take k).map (· ^^^ 54)).map bv) ∧ Row wr w1.heap.size 5 A6 k c6 (((X.take k).map (· ^^^ 92)).map bv) ∧ Dj A5 A6)) _ _ ⟨0, 0, 0, none, none, rfl, rfl, Om, Ext.refl _, Row.empty _ _ _, Row.empty _ _ _, Dj.NI _⟩ Ls ?_;rintro Zt n' L wr ⟨k, c5, c6, A5, A6, rfl, rfl, hk, F, R5, R6, hD⟩ YY;refine aa1 (fun Y3 => ?_) (fun Y3 => ?_)
  ·refine au 15 ?_;refine bL (fB rfl rfl) rfl (fun hlt => ?_) (fun hlt => ?_)
   ·refine au 2 ?_;refine bS rfl rfl ?_;obtain ⟨b, off, y, rfl, hy, hcy⟩ := (HK.ext F).byte (k := k) Om;refine au 4 ?_;refine ak (ah rfl Tn.u rfl hcy) ?_;have hyX : X.getD k 0 = y := by rw [hks, hy.out]
    have hyb := (y).toNat_lt;refine au 7 ?_;refine ak (bO rfl rfl (bJ (p := (y).toNat) (q := 54) Om Om).2.2) ?_;refine af (aF (z := .int .u8 0) Tn.u Kr rfl rfl rfl rfl rfl) rfl ?_;rintro _ w5 ⟨g5, rfl, B5, Za, ex⟩;replace F := F.ext ex;replace R5 := R5.ext ex; replace R6 := R6.ext ex;refine af (aT rfl rfl bV R5 (At.fA (vs := [y ^^^ 54].map bv) (B5.congr (by rfl))) rfl aJ Om Om F.size) rfl ?_;rintro _ w6 ⟨A7, c7, rfl, R7, be, gr, hl⟩;have F6 := F.trans be; have q6 := Row.app R6 hD gr hl R5.gQ; have R8 := R7.cat; rw [iM X k Om 54 _ hyX] at R8;refine au 6 ?_;refine ak (bO rfl rfl (bJ (p := (y).toNat) (q := 92) Om Om).2.2) ?_;refine af (aF (z := .int .u8 0) Tn.u Kr rfl rfl rfl rfl rfl) rfl ?_;rintro _ w7 ⟨g7, rfl, B7, Zb, ex⟩;replace R8 := R8.ext ex; have R9 := q6.1.ext ex; have F7 := F6.ext ex;refine af (aT rfl rfl bV R9 (At.fA (vs := [y ^^^ 92].map bv) (B7.congr (by rfl))) rfl aJ Om Om F7.size) rfl ?_;rintro _ w8 ⟨A9, c9, rfl, YV, be, gr, hl⟩;have F8 := F7.trans be; have q8 := Row.app R8 q6.2.symm gr hl R9.gQ; have YU := YV.cat; rw [iM X k Om 92 _ hyX] at YU;refine au 9 ?_;refine ae ?_;refine YY _ _ ⟨k + 1, c7, c9, A7, A9, rfl, rfl, Om, F8, q8.1, YU, q8.2.symm⟩ Om Ls
   refine au 2 ?_;refine bm rfl rfl ?_;refine au 3 ?_;have hyX : X.getD k 0 = 0 := by rw [hks, List.getD_eq_getElem?_getD, List.getElem?_eq_none (by rw [HK.1]; omega)]; rfl
   have hyb := ((0 : UInt8)).toNat_lt;refine au 3 ?_;refine ak (bO rfl rfl (bJ (p := ((0 : UInt8)).toNat) (q := 54) Om Om).2.2) ?_;refine af (aF (z := .int .u8 0) Tn.u Kr rfl rfl rfl rfl rfl) rfl ?_;rintro _ w5 ⟨g5, rfl, B5, Za, ex⟩;replace F := F.ext ex;replace R5 := R5.ext ex; replace R6 := R6.ext ex;refine af (aT rfl rfl bV R5 (At.fA (vs := [(0 : UInt8) ^^^ 54].map bv) (B5.congr (by rfl))) rfl aJ Om Om F.size) rfl ?_;rintro _ w6 ⟨A7, c7, rfl, R7, be, gr, hl⟩;have F6 := F.trans be; have q6 := Row.app R6 hD gr hl R5.gQ; have R8 := R7.cat; rw [iM X k Om 54 _ hyX] at R8;refine au 6 ?_;refine ak (bO rfl rfl (bJ (p := ((0 : UInt8)).toNat) (q := 92) Om Om).2.2) ?_;refine af (aF (z := .int .u8 0) Tn.u Kr rfl rfl rfl rfl rfl) rfl ?_;rintro _ w7 ⟨g7, rfl, B7, Zb, ex⟩;replace R8 := R8.ext ex; have R9 := q6.1.ext ex; have F7 := F6.ext ex;refine af (aT rfl rfl bV R9 (At.fA (vs := [(0 : UInt8) ^^^ 92].map bv) (B7.congr (by rfl))) rfl aJ Om Om F7.size) rfl ?_;rintro _ w8 ⟨A9, c9, rfl, YV, be, gr, hl⟩;have F8 := F7.trans be; have q8 := Row.app R8 q6.2.symm gr hl R9.gQ; have YU := YV.cat; rw [iM X k Om 92 _ hyX] at YU;refine au 9 ?_;refine ae ?_;refine YY _ _ ⟨k + 1, c7, c9, A7, A9, rfl, rfl, Om, F8, q8.1, YU, q8.2.symm⟩ Om Ls
  obtain rfl : k = 64 := Om
  rw [List.take_of_length_le Om, hX] at R5 R6;have hsF := F.size;refine aU ?_;refine af (aT rfl rfl bV R5 (HB.ext F).2 (by rw [List.length_map, HB.1]) aJ Om Om hsF) rfl ?_;rintro _ Zu ⟨Zc, c10, rfl, YV, be, gr, hl⟩;have Zd := F.trans be; have YU := (Row.app R6 hD gr hl R5.gQ).1; have Ze := YV.cat.bs;refine aB func52 rfl (il Zc _ c10 _ _ Ze Om) ?_;rintro e Zv ⟨Zw, c11, rfl, YZ, ex⟩;refine aU ?_;have Zf := YU.ext ex; have Y0 := Zd.ext ex; have YW := Y0.size;refine af (aT rfl rfl bV Zf YZ.bs.2 (by rw [List.length_map]; exact YZ.bs.1) aJ Om Om YW) rfl ?_;rintro _ Zg ⟨Zh, Zi, rfl, Zj, be, gr, hl⟩;have Y2 := Y0.trans be; have Zk := Zj.cat.bs;refine aB func52 rfl (il Zh _ Zi _ _ Zk Om) ?_;rintro e Zl ⟨Zm, Zn, rfl, Zo, ex⟩;have Zp := Y2.ext ex; have Zq := E.ext Zp; have YX : w.heap.size ≤ Zg.heap.size := Nat.le_trans E.size Y2.size; have Zr : Row Zl w.heap.size 5 Zm 32 Zn _ := Row.lower Zo YX;refine aU ?_;exact aa4 rfl ⟨_, _, rfl, Zr, Zq⟩
 have HK := HA;refine aU ?_;have hks : ∀ k, X.getD k 0 = xs.getD k 0 := fun k => by rw [hX]; exact Fv _ _ (by have := HA.1; split <;> first | rfl | omega) k
 refine aE (fun n' L wr => ∃ (k c5 c6 : Nat) (A5 A6 : Oa), L = [(0, .slice A n c), (1, .slice B m d), (5, .slice A5 k c5), (6, .slice A6 k c6), (7, .int .i64 (k : Int))] ∧ n' = 64 - k ∧ (k ≤ 64 ∧ Ext w wr ∧ Row wr w.heap.size 5 A5 k c5 (((X.take k).map (· ^^^ 54)).map bv) ∧ Row wr w.heap.size 5 A6 k c6 (((X.take k).map (· ^^^ 92)).map bv) ∧ Dj A5 A6)) _ _ ⟨0, 0, 0, none, none, rfl, rfl, Om, Ext.refl _, Row.empty _ _ _, Row.empty _ _ _, Dj.NI _⟩ Ls ?_;rintro Zt n' L wr ⟨k, c5, c6, A5, A6, rfl, rfl, hk, F, R5, R6, hD⟩ YY;refine aa1 (fun Y3 => ?_) (fun Y3 => ?_)
 ·refine au 15 ?_;refine bL (fB rfl rfl) rfl (fun hlt => ?_) (fun hlt => ?_)
  ·refine au 2 ?_;refine bS rfl rfl ?_;obtain ⟨b, off, y, rfl, hy, hcy⟩ := (HK.ext F).byte (k := k) Om;refine au 4 ?_;refine ak (ah rfl Tn.u rfl hcy) ?_;have hyX : X.getD k 0 = y := by rw [hks, hy.out]
   have hyb := (y).toNat_lt;refine au 7 ?_;refine ak (bO rfl rfl (bJ (p := (y).toNat) (q := 54) Om Om).2.2) ?_;refine af (aF (z := .int .u8 0) Tn.u Kr rfl rfl rfl rfl rfl) rfl ?_;rintro _ w5 ⟨g5, rfl, B5, Za, ex⟩;replace F := F.ext ex;replace R5 := R5.ext ex; replace R6 := R6.ext ex;refine af (aT rfl rfl bV R5 (At.fA (vs := [y ^^^ 54].map bv) (B5.congr (by rfl))) rfl aJ Om Om F.size) rfl ?_;rintro _ w6 ⟨A7, c7, rfl, R7, be, gr, hl⟩;have F6 := F.trans be; have q6 := Row.app R6 hD gr hl R5.gQ; have R8 := R7.cat; rw [iM X k Om 54 _ hyX] at R8;refine au 6 ?_;refine ak (bO rfl rfl (bJ (p := (y).toNat) (q := 92) Om Om).2.2) ?_;refine af (aF (z := .int .u8 0) Tn.u Kr rfl rfl rfl rfl rfl) rfl ?_;rintro _ w7 ⟨g7, rfl, B7, Zb, ex⟩;replace R8 := R8.ext ex; have R9 := q6.1.ext ex; have F7 := F6.ext ex;refine af (aT rfl rfl bV R9 (At.fA (vs := [y ^^^ 92].map bv) (B7.congr (by rfl))) rfl aJ Om Om F7.size) rfl ?_;rintro _ w8 ⟨A9, c9, rfl, YV, be, gr, hl⟩;have F8 := F7.trans be; have q8 := Row.app R8 q6.2.symm gr hl R9.gQ; have YU := YV.cat; rw [iM X k Om 92 _ hyX] at YU;refine au 9 ?_;refine ae ?_;refine YY _ _ ⟨k + 1, c7, c9, A7, A9, rfl, rfl, Om, F8, q8.1, YU, q8.2.symm⟩ Om Ls
  refine au 2 ?_;refine bm rfl rfl ?_;refine au 3 ?_;have hyX : X.getD k 0 = 0 := by rw [hks, List.getD_eq_getElem?_getD, List.getElem?_eq_none (by rw [HK.1]; omega)]; rfl
  have hyb := ((0 : UInt8)).toNat_lt;refine au 3 ?_;refine ak (bO rfl rfl (bJ (p := ((0 : UInt8)).toNat) (q := 54) Om Om).2.2) ?_;refine af (aF (z := .int .u8 0) Tn.u Kr rfl rfl rfl rfl rfl) rfl ?_;rintro _ w5 ⟨g5, rfl, B5, Za, ex⟩;replace F := F.ext ex;replace R5 := R5.ext ex; replace R6 := R6.ext ex;refine af (aT rfl rfl bV R5 (At.fA (vs := [(0 : UInt8) ^^^ 54].map bv) (B5.congr (by rfl))) rfl aJ Om Om F.size) rfl ?_;rintro _ w6 ⟨A7, c7, rfl, R7, be, gr, hl⟩;have F6 := F.trans be; have q6 := Row.app R6 hD gr hl R5.gQ; have R8 := R7.cat; rw [iM X k Om 54 _ hyX] at R8;refine au 6 ?_;refine ak (bO rfl rfl (bJ (p := ((0 : UInt8)).toNat) (q := 92) Om Om).2.2) ?_;refine af (aF (z := .int .u8 0) Tn.u Kr rfl rfl rfl rfl rfl) rfl ?_;rintro _ w7 ⟨g7, rfl, B7, Zb, ex⟩;replace R8 := R8.ext ex; have R9 := q6.1.ext ex; have F7 := F6.ext ex;refine af (aT rfl rfl bV R9 (At.fA (vs := [(0 : UInt8) ^^^ 92].map bv) (B7.congr (by rfl))) rfl aJ Om Om F7.size) rfl ?_;rintro _ w8 ⟨A9, c9, rfl, YV, be, gr, hl⟩;have F8 := F7.trans be; have q8 := Row.app R8 q6.2.symm gr hl R9.gQ; have YU := YV.cat; rw [iM X k Om 92 _ hyX] at YU;refine au 9 ?_;refine ae ?_;refine YY _ _ ⟨k + 1, c7, c9, A7, A9, rfl, rfl, Om, F8, q8.1, YU, q8.2.symm⟩ Om Ls
 obtain rfl : k = 64 := Om
 rw [List.take_of_length_le Om, hX] at R5 R6;have hsF := F.size;refine aU ?_;refine af (aT rfl rfl bV R5 (HB.ext F).2 (by rw [List.length_map, HB.1]) aJ Om Om hsF) rfl ?_;rintro _ Zu ⟨Zc, c10, rfl, YV, be, gr, hl⟩;have Zd := F.trans be; have YU := (Row.app R6 hD gr hl R5.gQ).1; have Ze := YV.cat.bs;refine aB func52 rfl (il Zc _ c10 _ _ Ze Om) ?_;rintro e Zv ⟨Zw, c11, rfl, YZ, ex⟩;refine aU ?_;have Zf := YU.ext ex; have Y0 := Zd.ext ex; have YW := Y0.size;refine af (aT rfl rfl bV Zf YZ.bs.2 (by rw [List.length_map]; exact YZ.bs.1) aJ Om Om YW) rfl ?_;rintro _ Zg ⟨Zh, Zi, rfl, Zj, be, gr, hl⟩;have Y2 := Y0.trans be; have Zk := Zj.cat.bs;refine aB func52 rfl (il Zh _ Zi _ _ Zk Om) ?_;rintro e Zl ⟨Zm, Zn, rfl, Zo, ex⟩;have Zp := Y2.ext ex; have Zq := E.ext Zp; have YX : w.heap.size ≤ Zg.heap.size := Nat.le_trans E.size Y2.size; have Zr : Row Zl w.heap.size 5 Zm 32 Zn _ := Row.lower Zo YX;refine aU ?_;exact aa4 rfl ⟨_, _, rfl, Zr, Zq⟩
end Go.Proofs.YtgfafidlkldeaaaGreat
