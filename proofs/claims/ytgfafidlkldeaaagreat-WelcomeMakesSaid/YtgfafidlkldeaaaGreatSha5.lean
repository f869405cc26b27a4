/- The digest of bytes: the code's Sum is the plain function. At most 2^45 bytes. -/
import Derived.Test.YtgfafidlkldeaaaGreatSha3
import Derived.Test.YtgfafidlkldeaaaGreatSl
import Derived.Test.YtgfafidlkldeaaaGreatLib
set_option linter.unusedVariables false
set_option linter.unusedSimpArgs false
namespace Go.Proofs.YtgfafidlkldeaaaGreat
section
open Go.RowKit Tryz
theorem o9 (k : Nat) : (128 : UInt8) :: List.replicate k 0 ++ [0] = 128 :: List.replicate (k + 1) 0 := by
 rw [List.cons_append, ← List.replicate_succ']
set_option maxHeartbeats 1000000 in
theorem DZ (n : Nat) (w : World) (hn : n ≤ 70368744177664) :
  Calls Tryz.prog 247 #[.int .i64 n] w fun e w' => ∃ A c, e = .returned (.slice A (9 + Sha.bS n) c) ∧ Own w' w.heap.size A (9 + Sha.bS n) c (Sha.pad n) ∧ Below w.heap.size w w' := by
 have hz : Sha.bS n < 64 := Nat.mod_lt _ Om
 go_enter func247, ntmps247
 go_wp2
 go_loopw [3] (fun v wr => ∃ (k : Nat) (A : Oa) (c : Nat), v = .slice A (1 + k) c ∧ k ≤ Sha.bS n ∧ Below w.heap.size w wr ∧ Own wr w.heap.size A (1 + k) c (128 :: List.replicate k 0)) (fun v _ => 64 - (lenOf v))
 case atStart => exact ⟨0, _, _, rfl, by omega, (Below.refl _ _).alloc (Nat.le_refl _) _, Own.lit w (Nat.le_refl _) 128⟩
 case round =>
  obtain ⟨k, A, c, rfl, hk, hbw, hown⟩ := hrel
  by_cases hlt : k < Sha.bS n
  ·have ht : (((n : Int) + (1 + (k : Int))) % 64 != 56) = true := by rw [bne_iff_ne]; unfold Sha.bS at hlt; omega
   go_wp2_with (at_builtin; refine er (w0 := w) rfl _ _ _ rfl _ _ bF _ _ _ _ rfl (hown.alloc _) _ _ _ ([0].map bv) rfl rfl (Bs.one wr _ 0).2 aH ?_ ?_ (hbw.alloc hbw.size _) ?_ ?_; rotate_right; intro A2 c2 w2 Vl Vm Vn Vo)
   ·go_roundw
    case rel => exact ⟨k + 1, A2, c2, rfl, by omega, Vm, (Own.app (ys := [0]) Vl).congr rfl (o9 k)⟩
    case measure => simp [lenOf]; omega
   ·omega
   ·omega
   ·have := hbw.size; simp; omega
  ·have ht : (((n : Int) + (1 + (k : Int))) % 64 != 56) = false := by rw [bne_eq_false_iff_eq]; unfold Sha.bS at hlt hk; omega
   go_wp2
   have Vq : k = Sha.bS n := by omega
   have HK := Lib.hid Vq
   have Vp : Own wr w.heap.size A (1 + k + 0) c (128 :: List.replicate k 0 ++ (Sha.iR (n * 8)).take 0) := hown.congr rfl (by simp)
   have HO := Lib.hid Vp; have HW := Lib.hid hbw
   clear Vq Vp hown hbw
   obtain ⟨wo, rfl⟩ : ∃ wo : World, wo = wr := ⟨_, rfl⟩
   go_loopw [3, 4] (fun v i wx => ∃ (j : Nat) (A : Oa) (c : Nat), v = .slice A (1 + k + j) c ∧ j ≤ 8 ∧ i = .int .i64 (7 - (j : Int)) ∧ Below w.heap.size w wx ∧ Own wx w.heap.size A (1 + k + j) c (128 :: List.replicate k 0 ++ (Sha.iR (n * 8)).take j)) (fun v _ _ => 80 + k - (lenOf v))
   case atStart => exact ⟨0, A, c, rfl, by omega, rfl, HW.out, HO.out⟩
   case round =>
    obtain ⟨j, A1, c1, rfl, hj, rfl, hbx, hox⟩ := hrel
    by_cases Vr : j < 8
    ·obtain rfl | rfl | rfl | rfl | rfl | rfl | rfl | rfl : j = 0 ∨ j = 1 ∨ j = 2 ∨ j = 3 ∨ j = 4 ∨ j = 5 ∨ j = 6 ∨ j = 7 := by omega
     ·go_wp2_with (at_builtin; refine er (w0 := w) rfl _ _ _ rfl _ _ bF _ _ _ _ rfl (hox.alloc _) _ _ _ ([UInt8.ofNat (n * 8 / 72057594037927936)].map bv) rfl rfl (Bs.uO wr _ ?_).2 aH ?_ ?_ (hbx.alloc hbx.size _) ?_ ?_; rotate_right; intro A2 c2 w2 Vl Vm Vn Vo)
      ·go_roundw
       case rel => exact ⟨1, A2, c2, rfl, by omega, rfl, Vm, (Own.app (ys := [UInt8.ofNat (n * 8 / 72057594037927936)]) Vl).congr rfl (by rw [List.append_assoc]; rfl)⟩
       case measure => simp [lenOf]; omega
      ·exact dD Om Om Om
      ·omega
      ·omega
      ·have := hbx.size; simp; omega
     ·go_wp2_with (at_builtin; refine er (w0 := w) rfl _ _ _ rfl _ _ bF _ _ _ _ rfl (hox.alloc _) _ _ _ ([UInt8.ofNat (n * 8 / 281474976710656)].map bv) rfl rfl (Bs.uO wr _ ?_).2 aH ?_ ?_ (hbx.alloc hbx.size _) ?_ ?_; rotate_right; intro A2 c2 w2 Vl Vm Vn Vo)
      ·go_roundw
       case rel => exact ⟨2, A2, c2, rfl, by omega, rfl, Vm, (Own.app (ys := [UInt8.ofNat (n * 8 / 281474976710656)]) Vl).congr rfl (by rw [List.append_assoc]; rfl)⟩
       case measure => simp [lenOf]; omega
      ·exact dD Om Om Om
      ·omega
      ·omega
      ·have := hbx.size; simp; omega
     ·go_wp2_with (at_builtin; refine er (w0 := w) rfl _ _ _ rfl _ _ bF _ _ _ _ rfl (hox.alloc _) _ _ _ ([UInt8.ofNat (n * 8 / 1099511627776)].map bv) rfl rfl (Bs.uO wr _ ?_).2 aH ?_ ?_ (hbx.alloc hbx.size _) ?_ ?_; rotate_right; intro A2 c2 w2 Vl Vm Vn Vo)
      ·go_roundw
       case rel => exact ⟨3, A2, c2, rfl, by omega, rfl, Vm, (Own.app (ys := [UInt8.ofNat (n * 8 / 1099511627776)]) Vl).congr rfl (by rw [List.append_assoc]; rfl)⟩
       case measure => simp [lenOf]; omega
      ·exact dD Om Om Om
      ·omega
      ·omega
      ·have := hbx.size; simp; omega
     ·go_wp2_with (at_builtin; refine er (w0 := w) rfl _ _ _ rfl _ _ bF _ _ _ _ rfl (hox.alloc _) _ _ _ ([UInt8.ofNat (n * 8 / 4294967296)].map bv) rfl rfl (Bs.uO wr _ ?_).2 aH ?_ ?_ (hbx.alloc hbx.size _) ?_ ?_; rotate_right; intro A2 c2 w2 Vl Vm Vn Vo)
      ·go_roundw
       case rel => exact ⟨4, A2, c2, rfl, by omega, rfl, Vm, (Own.app (ys := [UInt8.ofNat (n * 8 / 4294967296)]) Vl).congr rfl (by rw [List.append_assoc]; rfl)⟩
       case measure => simp [lenOf]; omega
      ·exact dD Om Om Om
      ·omega
      ·omega
      ·have := hbx.size; simp; omega
     ·go_wp2_with (at_builtin; refine er (w0 := w) rfl _ _ _ rfl _ _ bF _ _ _ _ rfl (hox.alloc _) _ _ _ ([UInt8.ofNat (n * 8 / 16777216)].map bv) rfl rfl (Bs.uO wr _ ?_).2 aH ?_ ?_ (hbx.alloc hbx.size _) ?_ ?_; rotate_right; intro A2 c2 w2 Vl Vm Vn Vo)
      ·go_roundw
       case rel => exact ⟨5, A2, c2, rfl, by omega, rfl, Vm, (Own.app (ys := [UInt8.ofNat (n * 8 / 16777216)]) Vl).congr rfl (by rw [List.append_assoc]; rfl)⟩
       case measure => simp [lenOf]; omega
      ·exact dD Om Om Om
      ·omega
      ·omega
      ·have := hbx.size; simp; omega
     ·go_wp2_with (at_builtin; refine er (w0 := w) rfl _ _ _ rfl _ _ bF _ _ _ _ rfl (hox.alloc _) _ _ _ ([UInt8.ofNat (n * 8 / 65536)].map bv) rfl rfl (Bs.uO wr _ ?_).2 aH ?_ ?_ (hbx.alloc hbx.size _) ?_ ?_; rotate_right; intro A2 c2 w2 Vl Vm Vn Vo)
      ·go_roundw
       case rel => exact ⟨6, A2, c2, rfl, by omega, rfl, Vm, (Own.app (ys := [UInt8.ofNat (n * 8 / 65536)]) Vl).congr rfl (by rw [List.append_assoc]; rfl)⟩
       case measure => simp [lenOf]; omega
      ·exact dD Om Om Om
      ·omega
      ·omega
      ·have := hbx.size; simp; omega
     ·go_wp2_with (at_builtin; refine er (w0 := w) rfl _ _ _ rfl _ _ bF _ _ _ _ rfl (hox.alloc _) _ _ _ ([UInt8.ofNat (n * 8 / 256)].map bv) rfl rfl (Bs.uO wr _ ?_).2 aH ?_ ?_ (hbx.alloc hbx.size _) ?_ ?_; rotate_right; intro A2 c2 w2 Vl Vm Vn Vo)
      ·go_roundw
       case rel => exact ⟨7, A2, c2, rfl, by omega, rfl, Vm, (Own.app (ys := [UInt8.ofNat (n * 8 / 256)]) Vl).congr rfl (by rw [List.append_assoc]; rfl)⟩
       case measure => simp [lenOf]; omega
      ·exact dD Om Om Om
      ·omega
      ·omega
      ·have := hbx.size; simp; omega
     ·go_wp2_with (at_builtin; refine er (w0 := w) rfl _ _ _ rfl _ _ bF _ _ _ _ rfl (hox.alloc _) _ _ _ ([UInt8.ofNat (n * 8)].map bv) rfl rfl (Bs.uO wr _ ?_).2 aH ?_ ?_ (hbx.alloc hbx.size _) ?_ ?_; rotate_right; intro A2 c2 w2 Vl Vm Vn Vo)
      ·go_roundw
       case rel => exact ⟨8, A2, c2, rfl, by omega, rfl, Vm, (Own.app (ys := [UInt8.ofNat (n * 8)]) Vl).congr rfl (by rw [List.append_assoc]; rfl)⟩
       case measure => simp [lenOf]; omega
      ·exact dD Om Om Om
      ·omega
      ·omega
      ·have := hbx.size; simp; omega
    ·obtain rfl : j = 8 := by omega
     go_wp2
     go_ret
     refine ⟨A1, c1, ?_, hox.congr (by have := HK.out; omega) (by rw [HK.out]; rfl), hbx⟩
     show Ending.returned (.slice A1 (1 + k + 8) c1) = _
     rw [show 1 + k + 8 = 9 + Sha.bS n from by have := HK.out; omega]
end
section
open Go.RowKit Tryz
theorem I7 : (Tryz.prog.info? 256).map (fun i => i.zero.map (·.cells)) = some (some (cJ (fV 32))) := by kernel_rfl
theorem EJ : (Tryz.prog.info? 256).map (·.size) = some 32 := by kernel_rfl
theorem yF (l : List Nat) : (l.flatMap Sha.pZ).length = 4 * l.length := by
 induction l with
 | nil => rfl
 | cons x l ih => rw [List.flatMap_cons, List.length_append, ih, List.length_cons]; show 4 + _ = _; omega
theorem Gd {w : World} {base n c b off : Nat} {A : Oa} {xs : Lb} (h : Own w base A n c xs) (hA : A = some ⟨b, off, none⟩) : base ≤ b ∧ b < w.heap.size := by
 subst hA
 exact World.ownsRow.lt h b rfl
set_option maxHeartbeats 2000000 in
theorem Gq (A : Oa) (n c : Nat) (xs : Lb) (w : World) (ha : Bs w A n xs) (hn : n ≤ 35184372088832) :
    Calls Tryz.prog 217 #[.slice A n c] w fun e w' => e = .returned (.agg (cJ (Sha.sum xs))) ∧ Below w.heap.size w w' := by
  have HA := Lib.hid ha
  clear ha
  go_enter func217, ntmps217
  go_wp2_with (first
    | (refine dv rfl _ rfl _ I7 w.heap.size rfl ?_
       obtain ⟨w0, Vw⟩ : ∃ w0, w0 = w.alloc (.cells (cJ (fV 32)) 256) := ⟨_, rfl⟩
       rw [← Vw]
       have B0 : Hid (Below w.heap.size w w0) := by rw [Vw]; exact (Below.refl _ _).alloc (Nat.le_refl _) _
       have K0 : Hid (ao w0 w.heap.size 256 (cJ (fV 32))) := by rw [Vw]; exact ao.new w _ _
       clear Vw)
    | fail)
  refine tW 0 (fun a' w' => ∃ u0 u1 u5 u6 u7 u8 u9 VF VG VH VI VJ VK u16 VL VM VN VO VP VQ VR VS VT VU VV VW VX VY VZ u32 V0 V1 V2 V4 V5 V6 Wa Wb Wc We Wf Wg Wh Wi Wj Wk Wl Wm Wn Wo Wq Wr Ws, ∃ (g1 k m c' : Nat) (A' : Oa),
      a' = { tmps := #[u0, u1, .pointer (some ⟨w.heap.size, 0, none⟩), .pointer (some ⟨g1, 0, none⟩), .slice A' m c', u5, u6, u7, u8, u9, VF, VG, VH, VI, VJ, VK, u16, VL, VM, VN, VO, VP, VQ, VR, VS, VT, VU, VV, VW, VX, VY, VZ, u32, V0, V1, V2, V4, V5, V6, Wa, Wb, Wc, We, Wf, Wg, Wh, Wi, Wj, Wk, Wl, Wm, Wn, Wo, Wq, Wr, Ws], defers := [] }
      ∧ m ≤ c' ∧ 64 * k + m = (xs ++ Sha.pad xs.length).length ∧ w.heap.size < g1 ∧ (∀ b off, A' = some ⟨b, off, none⟩ → b ≠ g1) ∧ Below w.heap.size w w' ∧ ao w' w.heap.size 256 (cJ (fV 32))
      ∧ ao w' g1 284 (aK .u32 (Sha.blocks Sha.IV (xs ++ Sha.pad xs.length) k).list) ∧ Bs w' A' m ((xs ++ Sha.pad xs.length).drop (64 * k))) (fun a' _ => lenOf (a'.tmps.getD 4 undef)) rfl ?_ ?_
  · rintro a' w' ⟨u0, u1, u5, u6, u7, u8, u9, VF, VG, VH, VI, VJ, VK, u16, VL, VM, VN, VO, VP, VQ, VR, VS, VT, VU, VV, VW, VX, VY, VZ, u32, V0, V1, V2, V4, V5, V6, Wa, Wb, Wc, We, Wf, Wg, Wh, Wi, Wj, Wk, Wl, Wm, Wn, Wo, Wq, Wr, Ws, g1, k, m, c', A', rfl, hmc, hkm, Wv, hne, hbw, Ww, Wx, hbs⟩
    have HB := Lib.hid hbw; have Vs := Lib.hid Ww; have Vx := Lib.hid Wx; have HS := Lib.hid hbs; have HNE := Lib.hid hne; have HKM := Lib.hid hkm
    have hpm : (xs ++ Sha.pad xs.length).length % 64 = 0 := by rw [List.length_append]; exact Sha.iP _
    have hmod : m % 64 = 0 := by omega
    clear hbw Ww Wx hbs hne hkm hpm
    by_cases hm : 0 < m
    · have Vz : 64 ≤ m := by omega
      have hmi : (64 : Int) ≤ (m : Int) := by omega
      have hci : (64 : Int) ≤ (c' : Int) := by omega
      obtain ⟨b, off, rfl, _⟩ := HS.out.get hm
      have hbg : b ≠ g1 := HNE.out b off rfl
      go_wp2_with fail
      refine (CM _ c' _ g1 _ _ (HS.out.take Vz) (Sha.jK Sha.rE _ _) Vx.out).mono ?_
      rintro e Vt ⟨rfl, Wy, hgr⟩
      have Wz : Hid (ao Vt g1 284 (aK .u32 (Sha.blocks Sha.IV (xs ++ Sha.pad xs.length) (k + 1)).list)) := Wy
      have HC := HS.out.grown hgr HNE.out
      have HCA : c' = 64 → Bs Vt (some ⟨b, off, none⟩) (m - 64) ((xs ++ Sha.pad xs.length).drop (64 * (k + 1))) := fun h => by
        have h := HC.Jr (k := 64) Om (some ⟨b, off, none⟩)
        rw [List.drop_drop] at h
        exact h
      have HCB : Bs Vt (some ⟨b, off + 64, none⟩) (m - 64) ((xs ++ Sha.pad xs.length).drop (64 * (k + 1))) := by
        have h := HC.wj 64
        rw [List.drop_drop] at h
        exact h
      have WO := Lib.hid HCA; have WS := Lib.hid HCB
      clear HC HCA HCB
      have WA : Hid (Below w.heap.size w Vt) := nD HB.out hgr Om HB.out.size
      have WB : Hid (ao Vt w.heap.size 256 (cJ (fV 32))) := Vs.out.grown hgr (by intro h; injection h with h; omega)
      clear Wy hgr HB Vs Vx HS HNE
      go_wp2
      · go_step3
        refine ⟨rfl, ⟨_, _, _, _, _, _, _, _, _, _, _, _, _, _, _, _, _, _, _, _, _, _, _, _, _, _, _, _, _, _, _, _, _, _, _, _, _, _, _, _, _, _, _, _, _, _, _, _, _, _, _, _, _, g1, k + 1, m - 64, 0, _, rfl, by omega, by have := HKM.out; omega, Wv, ?_, WA.out, WB.out, Wz.out, WO.out Om⟩, ?_⟩
        · intro b' VA h; injection h with h; injection h with h _ _; omega
        · simp [lenOf]; omega
      · go_step3
        refine ⟨rfl, ⟨_, _, _, _, _, _, _, _, _, _, _, _, _, _, _, _, _, _, _, _, _, _, _, _, _, _, _, _, _, _, _, _, _, _, _, _, _, _, _, _, _, _, _, _, _, _, _, _, _, _, _, _, _, g1, k + 1, m - 64, c' - 64, _, rfl, by omega, by have := HKM.out; omega, Wv, ?_, WA.out, WB.out, Wz.out, WS.out⟩, ?_⟩
        · intro b' VA h; injection h with h; injection h with h _ _; omega
        · simp [lenOf]; omega
    · have hfin : ao w' g1 284 (aK .u32 (Sha.blocks Sha.IV (xs ++ Sha.pad xs.length) ((xs ++ Sha.pad xs.length).length / 64)).list) := by
        have h := Vx.out
        rw [show k = (xs ++ Sha.pad xs.length).length / 64 from by have := HKM.out; omega] at h
        exact h
      obtain ⟨S, hS⟩ : ∃ S, Hid (S = Sha.blocks Sha.IV (xs ++ Sha.pad xs.length) ((xs ++ Sha.pad xs.length).length / 64)) := ⟨_, rfl⟩
      rw [← hS.out] at hfin
      have hok : S.ok := by rw [hS.out]; exact Sha.jK Sha.rE _ _
      have HF := Lib.hid hfin; have HOK := Lib.hid hok
      have hsz := HB.out.size
      have hszlt := Vs.out.lt
      clear hfin hok Vx HS HNE
      obtain rfl : m = 0 := by omega
      go_wp2_with (first
        | (refine dv rfl _ rfl _ I7 w'.heap.size rfl ?_
           obtain ⟨w5, Vp⟩ : ∃ w5, w5 = w'.alloc (.cells (cJ (fV 32)) 256) := ⟨_, rfl⟩
           rw [← Vp]
           have WD : Hid (Below w.heap.size w w5) := by rw [Vp]; exact HB.out.alloc hsz _
           have K5 : Hid (ao w5 w'.heap.size 256 (cJ (fV 32))) := by rw [Vp]; exact ao.new w' _ _
           have K6 : Hid (ao w5 w.heap.size 256 (cJ (fV 32))) := by rw [Vp]; exact Vs.out.alloc _
           have K7 : Hid (ao w5 g1 284 (aK .u32 S.list)) := by rw [Vp]; exact HF.out.alloc _
           clear Vp)
        | refine mv rfl _ (.tmp 3) rfl g1 rfl _ _ _ K7.out underlying284 rfl 8 s8 rfl ?_)
      have WT : w.heap.size ≤ w'.heap.size := hsz
      have VB : S.list.length = 8 := rfl
      obtain ⟨l, hl⟩ : ∃ l, Hid (l = S.list) := ⟨_, rfl⟩
      rw [← hl.out] at K7 VB ⊢
      have OKL : Hid (∀ i, l.getD i 0 < 4294967296) := by rw [hl.out]; exact DU HOK.out
      have Vq := Lib.hid VB
      clear VB HF Vs HB B0 K0
      go_loopw [6, 7, 24] (fun _ _ i wr => ∃ k : Nat, k ≤ 8 ∧ i = .int .i64 k ∧ Below w.heap.size w wr ∧ ao wr w.heap.size 256 (cJ (fV 32)) ∧ ao wr w'.heap.size 256 (cJ ((l.take k).flatMap Sha.pZ ++ fV (32 - 4 * k)))) (fun _ _ i _ => 8 - (intOf i).toNat)
      case atStart => exact ⟨0, by omega, rfl, WD.out, K6.out, K5.out⟩
      case round =>
        obtain ⟨k, hk, rfl, hb, WE, WH⟩ := hrel
        have HX := Lib.hid hb; have VC := Lib.hid WE; have Vl := Lib.hid WH
        clear hb WE WH WD K5 K6
        by_cases hlt : k < 8
        · obtain ⟨q, hq⟩ : ∃ q, Hid (q = l.getD k 0) := ⟨_, rfl⟩
          have hql : q < 4294967296 := by rw [hq.out]; exact OKL.out _
          have hidx := fun (W : World) => qp (P := Tryz.prog) (w := W) (k := .i64) underlying284 underlying227 L8 hlt (by rw [de .u32 l k (by rw [Vq.out]; exact hlt), ← hq.out] : (aK .u32 l)[k]? = some (.int .u32 (q : Int)))
          have hlen : ((l.take k).flatMap Sha.pZ).length = 4 * k := by rw [yF, List.length_take, Vq.out]; omega
          have HLN := Lib.hid hlen
          have c0 : wr.cell? ⟨w'.heap.size, 4 * k, none⟩ = some (.int .u8 0) := by rw [Vl.out.cell]; exact lM Om Om
          have c1 : wr.cell? ⟨w'.heap.size, 4 * k + 1, none⟩ = some (.int .u8 0) := by rw [Vl.out.cell]; exact lM Om Om
          have c2 : wr.cell? ⟨w'.heap.size, 4 * k + 2, none⟩ = some (.int .u8 0) := by rw [Vl.out.cell]; exact lM Om Om
          have c3 : wr.cell? ⟨w'.heap.size, 4 * k + 3, none⟩ = some (.int .u8 0) := by rw [Vl.out.cell]; exact lM Om Om
          have f0 := Vl.out.frozen (4 * k); have f1 := Vl.out.frozen (4 * k + 1); have f2 := Vl.out.frozen (4 * k + 2); have f3 := Vl.out.frozen (4 * k + 3)
          clear hlen
          go_wp2
          go_roundw
          case rel =>
            refine ⟨k + 1, by omega, by go_num, (((HX.out.setCell (by show _ ≤ w'.heap.size; omega) _).setCell (by show _ ≤ w'.heap.size; omega) _).setCell (by show _ ≤ w'.heap.size; omega) _).setCell (by show _ ≤ w'.heap.size; omega) _, (((VC.out.xM (by show _ ≠ w'.heap.size; omega) _).xM (by show _ ≠ w'.heap.size; omega) _).xM (by show _ ≠ w'.heap.size; omega) _).xM (by show _ ≠ w'.heap.size; omega) _, ?_⟩
            have e : (l.take (k + 1)).flatMap Sha.pZ ++ fV (32 - 4 * (k + 1)) = (((((l.take k).flatMap Sha.pZ ++ [UInt8.ofNat (q / 16777216)]) ++ [UInt8.ofNat (q / 65536)]) ++ [UInt8.ofNat (q / 256)]) ++ [UInt8.ofNat q]) ++ fV (28 - 4 * k) := by
              rw [List.take_succ_eq_append_getElem (by rw [Vq.out]; exact hlt), List.flatMap_append, show 32 - 4 * (k + 1) = 28 - 4 * k from by omega]
              have : l[k]'(by rw [Vq.out]; exact hlt) = q := by rw [hq.out]; simp [Vq.out, hlt]
              rw [this]
              simp [Sha.pZ]
            rw [e]
            refine ao.xR (m := 29 - 4 * k) (ao.xR (m := 30 - 4 * k) (ao.xR (m := 31 - 4 * k) (ao.xR (m := 32 - 4 * k) Vl.out HLN.out.symm Om ?_) ?_ Om ?_) ?_ Om ?_) ?_ Om ?_
            · exact dD Om Om Om
            · simp [HLN.out]
            · exact dD Om Om Om
            · simp [HLN.out]
            · exact dD Om Om Om
            · simp [HLN.out]
            · exact dD Om Om Om
          case measure => simp [intOf]; omega
        · have hfin : ao wr w'.heap.size 256 (cJ (Sha.sum xs)) := by
            have h := Vl.out
            rw [show k = 8 from by omega, List.take_of_length_le (by rw [Vq.out]; omega)] at h
            rw [show l.flatMap Sha.pZ ++ fV (32 - 4 * 8) = Sha.sum xs from by rw [hl.out, hS.out]; exact List.append_nil _] at h
            exact h
          go_wp2_with (first
            | refine mv rfl _ (.tmp 5) rfl w'.heap.size rfl _ _ _ hfin underlying256 rfl 32 EJ rfl ?_
            | refine dS rfl _ (.tmp 2) (.tmp 55) rfl w.heap.size (cJ (Sha.sum xs)) rfl rfl _ _ VC.out 32 EJ rfl rfl (jT _) ?_)
          simp only [Exit.jump]
          exact nP rfl w.heap.size _ _ _ rfl (VC.out.row _) underlying256 rfl 32 EJ rfl rfl ⟨rfl, fv HX.out (Nat.le_refl _) _⟩
  · intro hp
    have HP := Lib.hid hp
    clear hp
    go_wp2_with (first
      | (go_at_call 246; refine (zV _).mono ?_; rintro e w1 ⟨rfl, Vy⟩
         have WU : w.heap.size < w1.heap.size := Nat.lt_of_lt_of_le K0.out.lt Vy.size
         have B1 : Hid (Below w.heap.size w w1) := B0.out.trans (Vy.mono B0.out.size)
         have K1 : Hid (ao w1 w.heap.size 256 (cJ (fV 32))) := K0.out.kept Vy
         clear Vy B0 K0)
      | (refine dv rfl _ rfl _ z8 w1.heap.size rfl ?_)
      | (refine dS rfl _ (.tmp 3) (.tmp 8) rfl w1.heap.size (aK .u32 Sha.H0) rfl rfl _ _ (ao.new w1 _ _) 8 s8 rfl rfl (cF _ _) ?_
         obtain ⟨w2, Vu⟩ : ∃ w2, w2 = (w1.alloc (.cells (aK .u32 (ji 8)) 284)).setRow w1.heap.size (aK .u32 Sha.H0) := ⟨_, rfl⟩
         rw [← Vu]
         have K2 : Hid (ao w2 w1.heap.size 284 (aK .u32 Sha.IV.list)) := by rw [Vu]; exact (ao.new w1 _ _).row _
         have J2 : Hid (ao w2 w.heap.size 256 (cJ (fV 32))) := by rw [Vu]; exact (K1.out.alloc _).gV Om _
         have B2 : Hid (Below w.heap.size w w2) := by rw [Vu]; exact fv (B1.out.alloc Om _) Om _
         clear Vu B1 K1)
      | fail)
    have WV : w1.heap.size < w2.heap.size := K2.out.lt
    refine (iD A n c xs _ (HA.out.below B2.out) Om).mono ?_
    rintro e w3 ⟨A3, c3, rfl, Vm, Vv⟩
    have O3 := Lib.hid Vm; have K3 : Hid (ao w3 w1.heap.size 284 (aK .u32 Sha.IV.list)) := K2.out.kept Vv
    have J3 : Hid (ao w3 w.heap.size 256 (cJ (fV 32))) := J2.out.kept Vv
    have B3 : Hid (Below w.heap.size w w3) := B2.out.trans (Vv.mono B2.out.size)
    have WW := Vv.size
    clear Vv Vm K2 J2 B2
    go_wp2_with fail
    refine (DZ n _ Om).mono ?_
    rintro e w4 ⟨A4, c4, rfl, Vn, Vr⟩
    have VD : Hid (Own w4 w2.heap.size A3 n c3 xs) := O3.out.below Vr
    have O4 : Hid (Own w4 w3.heap.size A4 (9 + Sha.bS n) c4 (Sha.pad n)) := Vn
    have K4 : Hid (ao w4 w1.heap.size 284 (aK .u32 Sha.IV.list)) := K3.out.kept Vr
    have J4 : Hid (ao w4 w.heap.size 256 (cJ (fV 32))) := J3.out.kept Vr
    have B4 : Hid (Below w.heap.size w w4) := B3.out.trans (Vr.mono B3.out.size)
    have WX := Vr.size
    have hzz : Sha.bS n < 64 := Nat.mod_lt _ Om
    clear Vr Vn O3 K3 J3 B3
    go_wp2_with (at_builtin; refine er (w0 := w4) rfl _ _ _ rfl _ _ bF w2.heap.size _ _ _ rfl VD.out _ _ _ ((Sha.pad n).map bv) rfl (by rw [List.length_map]; exact O4.out.len) O4.out.bs.2 aH ?_ ?_ (Below.refl _ _) ?_ ?_; rotate_right; intro A5 c5 w5 Vo VE WI WY)
    · go_step3
      have hL : 64 * 0 + (n + (9 + Sha.bS n)) = (xs ++ Sha.pad xs.length).length := by rw [List.length_append, Sha.cG, HA.out.1]; omega
      have O5 : Own w5 w2.heap.size A5 (n + (9 + Sha.bS n)) c5 (xs ++ Sha.pad xs.length) := by
        have := Own.app (ys := Sha.pad n) Vo
        rw [HA.out.1]; exact this
      simp only [Exit.then]
      rename_i hk
      refine hk _ _ ?_
      refine HP.out _ _ ⟨_, _, _, _, _, _, _, _, _, _, _, _, _, _, _, _, _, _, _, _, _, _, _, _, _, _, _, _, _, _, _, _, _, _, _, _, _, _, _, _, _, _, _, _, _, _, _, _, _, _, _, _, _, w1.heap.size, 0, _, c5, A5, rfl, ?_, hL, WU, ?_, ?_, ?_, ?_, ?_⟩
      · exact xy Vo
      · exact fun b off he => by have := Gd O5 he; omega
      · exact B4.out.trans (VE.mono Om)
      · exact (J4.out.grown WI (by have := VD.out.lt; intro h; have := this _ h.symm; omega))
      · exact (K4.out.grown WI (by have := VD.out.lt; intro h; have := this _ h.symm; omega))
      · exact O5.bs
    · omega
    · omega
    · omega
end
end Go.Proofs.YtgfafidlkldeaaaGreat
