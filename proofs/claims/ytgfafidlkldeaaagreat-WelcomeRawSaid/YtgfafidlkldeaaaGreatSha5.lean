/- The digest of bytes: the code's Sum is the plain function. At most 2^45 bytes. -/
import Derived.Test.YtgfafidlkldeaaaGreatSha3
import Derived.Test.YtgfafidlkldeaaaGreatSl
import Derived.Test.YtgfafidlkldeaaaGreatRow
set_option linter.unusedVariables false
set_option linter.unusedSimpArgs false
namespace Go.Proofs.YtgfafidlkldeaaaGreat
section
open Go.RowKit Tryz
theorem rh (k : Nat) : (128 : UInt8) :: List.replicate k 0 ++ [0] = 128 :: List.replicate (k + 1) 0 := by
 rw [List.cons_append, ← List.replicate_succ']
set_option maxHeartbeats 1000000 in
theorem Es (n : Nat) (w : World) (hn : n ≤ 70368744177664) :
  Calls Tryz.prog 247 #[.int .i64 n] w fun e w' => ∃ A c, e = .returned (.slice A (9 + Sha.bY n) c) ∧ Own w' w.heap.size A (9 + Sha.bY n) c (Sha.pad n) ∧ Below w.heap.size w w' := by
 have hz : Sha.bY n < 64 := Nat.mod_lt _ Om
 go_enter func247, ntmps247
 go_wp2
 go_loopw [3] (fun v wr => ∃ (k : Nat) (A : Oa) (c : Nat), v = .slice A (1 + k) c ∧ k ≤ Sha.bY n ∧ Below w.heap.size w wr ∧ Own wr w.heap.size A (1 + k) c (128 :: List.replicate k 0)) (fun v _ => 64 - (lenOf v))
 case atStart => exact ⟨0, _, _, rfl, by omega, (Below.refl _ _).alloc (Nat.le_refl _) _, Own.lit w (Nat.le_refl _) 128⟩
 case round =>
  obtain ⟨k, A, c, rfl, hk, hbw, hown⟩ := hrel
  by_cases hlt : k < Sha.bY n
  ·have ht : (((n : Int) + (1 + (k : Int))) % 64 != 56) = true := by rw [bne_iff_ne]; unfold Sha.bY at hlt; omega
   go_wp2_with (at_builtin; refine eV (w0 := w) rfl _ _ _ rfl _ _ cB _ _ _ _ rfl (hown.alloc _) _ _ _ ([0].map bv) rfl rfl (Bs.one wr _ 0).2 aM ?_ ?_ (hbw.alloc hbw.size _) ?_ ?_; rotate_right; intro A2 c2 w2 Vw Vx Vy Vz)
   ·go_roundw
    case rel => exact ⟨k + 1, A2, c2, rfl, by omega, Vx, (Own.app (ys := [0]) Vw).congr rfl (rh k)⟩
    case measure => simp [lenOf]; omega
   ·omega
   ·omega
   ·have := hbw.size; simp; omega
  ·have ht : (((n : Int) + (1 + (k : Int))) % 64 != 56) = false := by rw [bne_eq_false_iff_eq]; unfold Sha.bY at hlt hk; omega
   go_wp2
   have VB : k = Sha.bY n := by omega
   have HK := Lib.hid VB
   have VA : Own wr w.heap.size A (1 + k + 0) c (128 :: List.replicate k 0 ++ (Sha.jO (n * 8)).take 0) := hown.congr rfl (by simp)
   have HO := Lib.hid VA; have HW := Lib.hid hbw
   clear VB VA hown hbw
   obtain ⟨wo, rfl⟩ : ∃ wo : World, wo = wr := ⟨_, rfl⟩
   go_loopw [3, 4] (fun v i wx => ∃ (j : Nat) (A : Oa) (c : Nat), v = .slice A (1 + k + j) c ∧ j ≤ 8 ∧ i = .int .i64 (7 - (j : Int)) ∧ Below w.heap.size w wx ∧ Own wx w.heap.size A (1 + k + j) c (128 :: List.replicate k 0 ++ (Sha.jO (n * 8)).take j)) (fun v _ _ => 80 + k - (lenOf v))
   case atStart => exact ⟨0, A, c, rfl, by omega, rfl, HW.out, HO.out⟩
   case round =>
    obtain ⟨j, A1, c1, rfl, hj, rfl, hbx, hox⟩ := hrel
    by_cases VC : j < 8
    ·obtain rfl | rfl | rfl | rfl | rfl | rfl | rfl | rfl : j = 0 ∨ j = 1 ∨ j = 2 ∨ j = 3 ∨ j = 4 ∨ j = 5 ∨ j = 6 ∨ j = 7 := by omega
     ·go_wp2_with (at_builtin; refine eV (w0 := w) rfl _ _ _ rfl _ _ cB _ _ _ _ rfl (hox.alloc _) _ _ _ ([UInt8.ofNat (n * 8 / 72057594037927936)].map bv) rfl rfl (Bs.xm wr _ ?_).2 aM ?_ ?_ (hbx.alloc hbx.size _) ?_ ?_; rotate_right; intro A2 c2 w2 Vw Vx Vy Vz)
      ·go_roundw
       case rel => exact ⟨1, A2, c2, rfl, by omega, rfl, Vx, (Own.app (ys := [UInt8.ofNat (n * 8 / 72057594037927936)]) Vw).congr rfl (by rw [List.append_assoc]; rfl)⟩
       case measure => simp [lenOf]; omega
      ·exact dS Om Om Om
      ·omega
      ·omega
      ·have := hbx.size; simp; omega
     ·go_wp2_with (at_builtin; refine eV (w0 := w) rfl _ _ _ rfl _ _ cB _ _ _ _ rfl (hox.alloc _) _ _ _ ([UInt8.ofNat (n * 8 / 281474976710656)].map bv) rfl rfl (Bs.xm wr _ ?_).2 aM ?_ ?_ (hbx.alloc hbx.size _) ?_ ?_; rotate_right; intro A2 c2 w2 Vw Vx Vy Vz)
      ·go_roundw
       case rel => exact ⟨2, A2, c2, rfl, by omega, rfl, Vx, (Own.app (ys := [UInt8.ofNat (n * 8 / 281474976710656)]) Vw).congr rfl (by rw [List.append_assoc]; rfl)⟩
       case measure => simp [lenOf]; omega
      ·exact dS Om Om Om
      ·omega
      ·omega
      ·have := hbx.size; simp; omega
     ·go_wp2_with (at_builtin; refine eV (w0 := w) rfl _ _ _ rfl _ _ cB _ _ _ _ rfl (hox.alloc _) _ _ _ ([UInt8.ofNat (n * 8 / 1099511627776)].map bv) rfl rfl (Bs.xm wr _ ?_).2 aM ?_ ?_ (hbx.alloc hbx.size _) ?_ ?_; rotate_right; intro A2 c2 w2 Vw Vx Vy Vz)
      ·go_roundw
       case rel => exact ⟨3, A2, c2, rfl, by omega, rfl, Vx, (Own.app (ys := [UInt8.ofNat (n * 8 / 1099511627776)]) Vw).congr rfl (by rw [List.append_assoc]; rfl)⟩
       case measure => simp [lenOf]; omega
      ·exact dS Om Om Om
      ·omega
      ·omega
      ·have := hbx.size; simp; omega
     ·go_wp2_with (at_builtin; refine eV (w0 := w) rfl _ _ _ rfl _ _ cB _ _ _ _ rfl (hox.alloc _) _ _ _ ([UInt8.ofNat (n * 8 / 4294967296)].map bv) rfl rfl (Bs.xm wr _ ?_).2 aM ?_ ?_ (hbx.alloc hbx.size _) ?_ ?_; rotate_right; intro A2 c2 w2 Vw Vx Vy Vz)
      ·go_roundw
       case rel => exact ⟨4, A2, c2, rfl, by omega, rfl, Vx, (Own.app (ys := [UInt8.ofNat (n * 8 / 4294967296)]) Vw).congr rfl (by rw [List.append_assoc]; rfl)⟩
       case measure => simp [lenOf]; omega
      ·exact dS Om Om Om
      ·omega
      ·omega
      ·have := hbx.size; simp; omega
     ·go_wp2_with (at_builtin; refine eV (w0 := w) rfl _ _ _ rfl _ _ cB _ _ _ _ rfl (hox.alloc _) _ _ _ ([UInt8.ofNat (n * 8 / 16777216)].map bv) rfl rfl (Bs.xm wr _ ?_).2 aM ?_ ?_ (hbx.alloc hbx.size _) ?_ ?_; rotate_right; intro A2 c2 w2 Vw Vx Vy Vz)
      ·go_roundw
       case rel => exact ⟨5, A2, c2, rfl, by omega, rfl, Vx, (Own.app (ys := [UInt8.ofNat (n * 8 / 16777216)]) Vw).congr rfl (by rw [List.append_assoc]; rfl)⟩
       case measure => simp [lenOf]; omega
      ·exact dS Om Om Om
      ·omega
      ·omega
      ·have := hbx.size; simp; omega
     ·go_wp2_with (at_builtin; refine eV (w0 := w) rfl _ _ _ rfl _ _ cB _ _ _ _ rfl (hox.alloc _) _ _ _ ([UInt8.ofNat (n * 8 / 65536)].map bv) rfl rfl (Bs.xm wr _ ?_).2 aM ?_ ?_ (hbx.alloc hbx.size _) ?_ ?_; rotate_right; intro A2 c2 w2 Vw Vx Vy Vz)
      ·go_roundw
       case rel => exact ⟨6, A2, c2, rfl, by omega, rfl, Vx, (Own.app (ys := [UInt8.ofNat (n * 8 / 65536)]) Vw).congr rfl (by rw [List.append_assoc]; rfl)⟩
       case measure => simp [lenOf]; omega
      ·exact dS Om Om Om
      ·omega
      ·omega
      ·have := hbx.size; simp; omega
     ·go_wp2_with (at_builtin; refine eV (w0 := w) rfl _ _ _ rfl _ _ cB _ _ _ _ rfl (hox.alloc _) _ _ _ ([UInt8.ofNat (n * 8 / 256)].map bv) rfl rfl (Bs.xm wr _ ?_).2 aM ?_ ?_ (hbx.alloc hbx.size _) ?_ ?_; rotate_right; intro A2 c2 w2 Vw Vx Vy Vz)
      ·go_roundw
       case rel => exact ⟨7, A2, c2, rfl, by omega, rfl, Vx, (Own.app (ys := [UInt8.ofNat (n * 8 / 256)]) Vw).congr rfl (by rw [List.append_assoc]; rfl)⟩
       case measure => simp [lenOf]; omega
      ·exact dS Om Om Om
      ·omega
      ·omega
      ·have := hbx.size; simp; omega
     ·go_wp2_with (at_builtin; refine eV (w0 := w) rfl _ _ _ rfl _ _ cB _ _ _ _ rfl (hox.alloc _) _ _ _ ([UInt8.ofNat (n * 8)].map bv) rfl rfl (Bs.xm wr _ ?_).2 aM ?_ ?_ (hbx.alloc hbx.size _) ?_ ?_; rotate_right; intro A2 c2 w2 Vw Vx Vy Vz)
      ·go_roundw
       case rel => exact ⟨8, A2, c2, rfl, by omega, rfl, Vx, (Own.app (ys := [UInt8.ofNat (n * 8)]) Vw).congr rfl (by rw [List.append_assoc]; rfl)⟩
       case measure => simp [lenOf]; omega
      ·exact dS Om Om Om
      ·omega
      ·omega
      ·have := hbx.size; simp; omega
    ·obtain rfl : j = 8 := by omega
     go_wp2
     go_ret
     refine ⟨A1, c1, ?_, hox.congr (by have := HK.out; omega) (by rw [HK.out]; rfl), hbx⟩
     show Ending.returned (.slice A1 (1 + k + 8) c1) = _
     rw [show 1 + k + 8 = 9 + Sha.bY n from by have := HK.out; omega]
end
section
open Go.RowKit Tryz
theorem M7 : (Tryz.prog.info? 256).map (fun i => i.zero.map (·.cells)) = some (some (cT (gD 32))) := by kernel_rfl
theorem IY : (Tryz.prog.info? 256).map (·.size) = some 32 := by kernel_rfl
theorem CU (l : List Nat) : (l.flatMap Sha.rT).length = 4 * l.length := by
 induction l with
 | nil => rfl
 | cons x l ih => rw [List.flatMap_cons, List.length_append, ih, List.length_cons]; show 4 + _ = _; omega
theorem Kq {w : World} {base n c b off : Nat} {A : Oa} {xs : Lb} (h : Own w base A n c xs) (hA : A = some ⟨b, off, none⟩) : base ≤ b ∧ b < w.heap.size := by
 subst hA
 exact World.ownsRow.lt h b rfl
set_option maxHeartbeats 2000000 in
theorem IB (A : Oa) (n c : Nat) (xs : Lb) (w : World) (ha : Bs w A n xs) (hn : n ≤ 35184372088832) :
    Calls Tryz.prog 217 #[.slice A n c] w fun e w' => e = .returned (.agg (cT (Sha.sum xs))) ∧ Below w.heap.size w w' := by
  have HA := Lib.hid ha
  clear ha
  go_enter func217, ntmps217
  go_wp2_with (first
    | (refine dC rfl _ rfl _ M7 w.heap.size rfl ?_
       obtain ⟨w0, VH⟩ : ∃ w0, w0 = w.alloc (.cells (cT (gD 32)) 256) := ⟨_, rfl⟩
       rw [← VH]
       have B0 : Hid (Below w.heap.size w w0) := by rw [VH]; exact (Below.refl _ _).alloc (Nat.le_refl _) _
       have K0 : Hid (ao w0 w.heap.size 256 (cT (gD 32))) := by rw [VH]; exact ao.new w _ _
       clear VH)
    | fail)
  refine vv 0 (fun a' w' => ∃ u0 u1 u5 u6 u7 u8 u9 VQ VR VS VT VU VV u16 VW VX VY VZ V0 V4 V5 V6 V7 V8 V9 Wa Wb Wc We u32 Wf Wg Wh Wi Wj Wk Wl Wm Wn Wo Wq Wr Ws Wv Ww Wx Wy Wz WA WB WD WE WG, ∃ (g1 k m c' : Nat) (A' : Oa),
      a' = { tmps := #[u0, u1, .pointer (some ⟨w.heap.size, 0, none⟩), .pointer (some ⟨g1, 0, none⟩), .slice A' m c', u5, u6, u7, u8, u9, VQ, VR, VS, VT, VU, VV, u16, VW, VX, VY, VZ, V0, V4, V5, V6, V7, V8, V9, Wa, Wb, Wc, We, u32, Wf, Wg, Wh, Wi, Wj, Wk, Wl, Wm, Wn, Wo, Wq, Wr, Ws, Wv, Ww, Wx, Wy, Wz, WA, WB, WD, WE, WG], defers := [] }
      ∧ m ≤ c' ∧ 64 * k + m = (xs ++ Sha.pad xs.length).length ∧ w.heap.size < g1 ∧ (∀ b off, A' = some ⟨b, off, none⟩ → b ≠ g1) ∧ Below w.heap.size w w' ∧ ao w' w.heap.size 256 (cT (gD 32))
      ∧ ao w' g1 284 (aN .u32 (Sha.blocks Sha.IV (xs ++ Sha.pad xs.length) k).list) ∧ Bs w' A' m ((xs ++ Sha.pad xs.length).drop (64 * k))) (fun a' _ => lenOf (a'.tmps.getD 4 undef)) rfl ?_ ?_
  · rintro a' w' ⟨u0, u1, u5, u6, u7, u8, u9, VQ, VR, VS, VT, VU, VV, u16, VW, VX, VY, VZ, V0, V4, V5, V6, V7, V8, V9, Wa, Wb, Wc, We, u32, Wf, Wg, Wh, Wi, Wj, Wk, Wl, Wm, Wn, Wo, Wq, Wr, Ws, Wv, Ww, Wx, Wy, Wz, WA, WB, WD, WE, WG, g1, k, m, c', A', rfl, hmc, hkm, WH, hne, hbw, WI, WO, hbs⟩
    have HB := Lib.hid hbw; have VD := Lib.hid WI; have VI := Lib.hid WO; have HS := Lib.hid hbs; have HNE := Lib.hid hne; have HKM := Lib.hid hkm
    have hpm : (xs ++ Sha.pad xs.length).length % 64 = 0 := by rw [List.length_append]; exact Sha.jA _
    have hmod : m % 64 = 0 := by omega
    clear hbw WI WO hbs hne hkm hpm
    by_cases hm : 0 < m
    · have VK : 64 ≤ m := by omega
      have hmi : (64 : Int) ≤ (m : Int) := by omega
      have hci : (64 : Int) ≤ (c' : Int) := by omega
      obtain ⟨b, off, rfl, _⟩ := HS.out.get hm
      have hbg : b ≠ g1 := HNE.out b off rfl
      go_wp2_with fail
      refine (Ft _ c' _ g1 _ _ (HS.out.take VK) (Sha.lF Sha.sB _ _) VI.out).mono ?_
      rintro e VE ⟨rfl, WS, hgr⟩
      have WT : Hid (ao VE g1 284 (aN .u32 (Sha.blocks Sha.IV (xs ++ Sha.pad xs.length) (k + 1)).list)) := WS
      have HC := HS.out.grown hgr HNE.out
      have HCA : c' = 64 → Bs VE (some ⟨b, off, none⟩) (m - 64) ((xs ++ Sha.pad xs.length).drop (64 * (k + 1))) := fun h => by
        have h := HC.MH (k := 64) Om (some ⟨b, off, none⟩)
        rw [List.drop_drop] at h
        exact h
      have HCB : Bs VE (some ⟨b, off + 64, none⟩) (m - 64) ((xs ++ Sha.pad xs.length).drop (64 * (k + 1))) := by
        have h := HC.uw 64
        rw [List.drop_drop] at h
        exact h
      have W0 := Lib.hid HCA; have W3 := Lib.hid HCB
      clear HC HCA HCB
      have WU : Hid (Below w.heap.size w VE) := oJ HB.out hgr Om HB.out.size
      have WV : Hid (ao VE w.heap.size 256 (cT (gD 32))) := VD.out.grown hgr (by intro h; injection h with h; omega)
      clear WS hgr HB VD VI HS HNE
      go_wp2
      · go_step3
        refine ⟨rfl, ⟨_, _, _, _, _, _, _, _, _, _, _, _, _, _, _, _, _, _, _, _, _, _, _, _, _, _, _, _, _, _, _, _, _, _, _, _, _, _, _, _, _, _, _, _, _, _, _, _, _, _, _, _, _, g1, k + 1, m - 64, 0, _, rfl, by omega, by have := HKM.out; omega, WH, ?_, WU.out, WV.out, WT.out, W0.out Om⟩, ?_⟩
        · intro b' VL h; injection h with h; injection h with h _ _; omega
        · simp [lenOf]; omega
      · go_step3
        refine ⟨rfl, ⟨_, _, _, _, _, _, _, _, _, _, _, _, _, _, _, _, _, _, _, _, _, _, _, _, _, _, _, _, _, _, _, _, _, _, _, _, _, _, _, _, _, _, _, _, _, _, _, _, _, _, _, _, _, g1, k + 1, m - 64, c' - 64, _, rfl, by omega, by have := HKM.out; omega, WH, ?_, WU.out, WV.out, WT.out, W3.out⟩, ?_⟩
        · intro b' VL h; injection h with h; injection h with h _ _; omega
        · simp [lenOf]; omega
    · have hfin : ao w' g1 284 (aN .u32 (Sha.blocks Sha.IV (xs ++ Sha.pad xs.length) ((xs ++ Sha.pad xs.length).length / 64)).list) := by
        have h := VI.out
        rw [show k = (xs ++ Sha.pad xs.length).length / 64 from by have := HKM.out; omega] at h
        exact h
      obtain ⟨S, hS⟩ : ∃ S, Hid (S = Sha.blocks Sha.IV (xs ++ Sha.pad xs.length) ((xs ++ Sha.pad xs.length).length / 64)) := ⟨_, rfl⟩
      rw [← hS.out] at hfin
      have hok : S.ok := by rw [hS.out]; exact Sha.lF Sha.sB _ _
      have HF := Lib.hid hfin; have HOK := Lib.hid hok
      have hsz := HB.out.size
      have hszlt := VD.out.lt
      clear hfin hok VI HS HNE
      obtain rfl : m = 0 := by omega
      go_wp2_with (first
        | (refine dC rfl _ rfl _ M7 w'.heap.size rfl ?_
           obtain ⟨w5, VA⟩ : ∃ w5, w5 = w'.alloc (.cells (cT (gD 32)) 256) := ⟨_, rfl⟩
           rw [← VA]
           have WW : Hid (Below w.heap.size w w5) := by rw [VA]; exact HB.out.alloc hsz _
           have K5 : Hid (ao w5 w'.heap.size 256 (cT (gD 32))) := by rw [VA]; exact ao.new w' _ _
           have K6 : Hid (ao w5 w.heap.size 256 (cT (gD 32))) := by rw [VA]; exact VD.out.alloc _
           have K7 : Hid (ao w5 g1 284 (aN .u32 S.list)) := by rw [VA]; exact HF.out.alloc _
           clear VA)
        | refine mX rfl _ (.tmp 3) rfl g1 rfl _ _ _ K7.out underlying284 rfl 8 s8 rfl ?_)
      have W4 : w.heap.size ≤ w'.heap.size := hsz
      have VM : S.list.length = 8 := rfl
      obtain ⟨l, hl⟩ : ∃ l, Hid (l = S.list) := ⟨_, rfl⟩
      rw [← hl.out] at K7 VM ⊢
      have OKL : Hid (∀ i, l.getD i 0 < 4294967296) := by rw [hl.out]; exact Gf HOK.out
      have VB := Lib.hid VM
      clear VM HF VD HB B0 K0
      go_loopw [6, 7, 24] (fun _ _ i wr => ∃ k : Nat, k ≤ 8 ∧ i = .int .i64 k ∧ Below w.heap.size w wr ∧ ao wr w.heap.size 256 (cT (gD 32)) ∧ ao wr w'.heap.size 256 (cT ((l.take k).flatMap Sha.rT ++ gD (32 - 4 * k)))) (fun _ _ i _ => 8 - (intOf i).toNat)
      case atStart => exact ⟨0, by omega, rfl, WW.out, K6.out, K5.out⟩
      case round =>
        obtain ⟨k, hk, rfl, hb, WX, WY⟩ := hrel
        have HX := Lib.hid hb; have VN := Lib.hid WX; have Vw := Lib.hid WY
        clear hb WX WY WW K5 K6
        by_cases hlt : k < 8
        · obtain ⟨q, hq⟩ : ∃ q, Hid (q = l.getD k 0) := ⟨_, rfl⟩
          have hql : q < 4294967296 := by rw [hq.out]; exact OKL.out _
          have hidx := fun (W : World) => rL (P := Tryz.prog) (w := W) (k := .i64) underlying284 underlying227 NW hlt (by rw [dw .u32 l k (by rw [VB.out]; exact hlt), ← hq.out] : (aN .u32 l)[k]? = some (.int .u32 (q : Int)))
          have hlen : ((l.take k).flatMap Sha.rT).length = 4 * k := by rw [CU, List.length_take, VB.out]; omega
          have HLN := Lib.hid hlen
          have c0 : wr.cell? ⟨w'.heap.size, 4 * k, none⟩ = some (.int .u8 0) := by rw [Vw.out.cell]; exact nc Om Om
          have c1 : wr.cell? ⟨w'.heap.size, 4 * k + 1, none⟩ = some (.int .u8 0) := by rw [Vw.out.cell]; exact nc Om Om
          have c2 : wr.cell? ⟨w'.heap.size, 4 * k + 2, none⟩ = some (.int .u8 0) := by rw [Vw.out.cell]; exact nc Om Om
          have c3 : wr.cell? ⟨w'.heap.size, 4 * k + 3, none⟩ = some (.int .u8 0) := by rw [Vw.out.cell]; exact nc Om Om
          have f0 := Vw.out.frozen (4 * k); have f1 := Vw.out.frozen (4 * k + 1); have f2 := Vw.out.frozen (4 * k + 2); have f3 := Vw.out.frozen (4 * k + 3)
          clear hlen
          go_wp2
          go_roundw
          case rel =>
            refine ⟨k + 1, by omega, by go_num, (((HX.out.setCell (by show _ ≤ w'.heap.size; omega) _).setCell (by show _ ≤ w'.heap.size; omega) _).setCell (by show _ ≤ w'.heap.size; omega) _).setCell (by show _ ≤ w'.heap.size; omega) _, (((VN.out.AJ (by show _ ≠ w'.heap.size; omega) _).AJ (by show _ ≠ w'.heap.size; omega) _).AJ (by show _ ≠ w'.heap.size; omega) _).AJ (by show _ ≠ w'.heap.size; omega) _, ?_⟩
            have e : (l.take (k + 1)).flatMap Sha.rT ++ gD (32 - 4 * (k + 1)) = (((((l.take k).flatMap Sha.rT ++ [UInt8.ofNat (q / 16777216)]) ++ [UInt8.ofNat (q / 65536)]) ++ [UInt8.ofNat (q / 256)]) ++ [UInt8.ofNat q]) ++ gD (28 - 4 * k) := by
              rw [List.take_succ_eq_append_getElem (by rw [VB.out]; exact hlt), List.flatMap_append, show 32 - 4 * (k + 1) = 28 - 4 * k from by omega]
              have : l[k]'(by rw [VB.out]; exact hlt) = q := by rw [hq.out]; simp [VB.out, hlt]
              rw [this]
              simp [Sha.rT]
            rw [e]
            refine ao.Au (m := 29 - 4 * k) (ao.Au (m := 30 - 4 * k) (ao.Au (m := 31 - 4 * k) (ao.Au (m := 32 - 4 * k) Vw.out HLN.out.symm Om ?_) ?_ Om ?_) ?_ Om ?_) ?_ Om ?_
            · exact dS Om Om Om
            · simp [HLN.out]
            · exact dS Om Om Om
            · simp [HLN.out]
            · exact dS Om Om Om
            · simp [HLN.out]
            · exact dS Om Om Om
          case measure => simp [intOf]; omega
        · have hfin : ao wr w'.heap.size 256 (cT (Sha.sum xs)) := by
            have h := Vw.out
            rw [show k = 8 from by omega, List.take_of_length_le (by rw [VB.out]; omega)] at h
            rw [show l.flatMap Sha.rT ++ gD (32 - 4 * 8) = Sha.sum xs from by rw [hl.out, hS.out]; exact List.append_nil _] at h
            exact h
          go_wp2_with (first
            | refine mX rfl _ (.tmp 5) rfl w'.heap.size rfl _ _ _ hfin underlying256 rfl 32 IY rfl ?_
            | refine eD rfl _ (.tmp 2) (.tmp 55) rfl w.heap.size (cT (Sha.sum xs)) rfl rfl _ _ VN.out 32 IY rfl rfl (lx _) ?_)
          simp only [Exit.jump]
          exact py rfl w.heap.size _ _ _ rfl (VN.out.row _) underlying256 rfl 32 IY rfl rfl ⟨rfl, fU HX.out (Nat.le_refl _) _⟩
  · intro hp
    have HP := Lib.hid hp
    clear hp
    go_wp2_with (first
      | (go_at_call 246; refine (CN _).mono ?_; rintro e w1 ⟨rfl, VJ⟩
         have W5 : w.heap.size < w1.heap.size := Nat.lt_of_lt_of_le K0.out.lt VJ.size
         have B1 : Hid (Below w.heap.size w w1) := B0.out.trans (VJ.mono B0.out.size)
         have K1 : Hid (ao w1 w.heap.size 256 (cT (gD 32))) := K0.out.kept VJ
         clear VJ B0 K0)
      | (refine dC rfl _ rfl _ z8 w1.heap.size rfl ?_)
      | (refine eD rfl _ (.tmp 3) (.tmp 8) rfl w1.heap.size (aN .u32 Sha.H0) rfl rfl _ _ (ao.new w1 _ _) 8 s8 rfl rfl (cO _ _) ?_
         obtain ⟨w2, VF⟩ : ∃ w2, w2 = (w1.alloc (.cells (aN .u32 (ka 8)) 284)).setRow w1.heap.size (aN .u32 Sha.H0) := ⟨_, rfl⟩
         rw [← VF]
         have K2 : Hid (ao w2 w1.heap.size 284 (aN .u32 Sha.IV.list)) := by rw [VF]; exact (ao.new w1 _ _).row _
         have J2 : Hid (ao w2 w.heap.size 256 (cT (gD 32))) := by rw [VF]; exact (K1.out.alloc _).iG Om _
         have B2 : Hid (Below w.heap.size w w2) := by rw [VF]; exact fU (B1.out.alloc Om _) Om _
         clear VF B1 K1)
      | fail)
    have W6 : w1.heap.size < w2.heap.size := K2.out.lt
    refine (jd A n c xs _ (HA.out.below B2.out) Om).mono ?_
    rintro e w3 ⟨A3, c3, rfl, Vx, VG⟩
    have O3 := Lib.hid Vx; have K3 : Hid (ao w3 w1.heap.size 284 (aN .u32 Sha.IV.list)) := K2.out.kept VG
    have J3 : Hid (ao w3 w.heap.size 256 (cT (gD 32))) := J2.out.kept VG
    have B3 : Hid (Below w.heap.size w w3) := B2.out.trans (VG.mono B2.out.size)
    have W7 := VG.size
    clear VG Vx K2 J2 B2
    go_wp2_with fail
    refine (Es n _ Om).mono ?_
    rintro e w4 ⟨A4, c4, rfl, Vy, VC⟩
    have VO : Hid (Own w4 w2.heap.size A3 n c3 xs) := O3.out.below VC
    have O4 : Hid (Own w4 w3.heap.size A4 (9 + Sha.bY n) c4 (Sha.pad n)) := Vy
    have K4 : Hid (ao w4 w1.heap.size 284 (aN .u32 Sha.IV.list)) := K3.out.kept VC
    have J4 : Hid (ao w4 w.heap.size 256 (cT (gD 32))) := J3.out.kept VC
    have B4 : Hid (Below w.heap.size w w4) := B3.out.trans (VC.mono B3.out.size)
    have W8 := VC.size
    have hzz : Sha.bY n < 64 := Nat.mod_lt _ Om
    clear VC Vy O3 K3 J3 B3
    go_wp2_with (at_builtin; refine eV (w0 := w4) rfl _ _ _ rfl _ _ cB w2.heap.size _ _ _ rfl VO.out _ _ _ ((Sha.pad n).map bv) rfl (by rw [List.length_map]; exact O4.out.len) O4.out.bs.2 aM ?_ ?_ (Below.refl _ _) ?_ ?_; rotate_right; intro A5 c5 w5 Vz VP WZ W9)
    · go_step3
      have hL : 64 * 0 + (n + (9 + Sha.bY n)) = (xs ++ Sha.pad xs.length).length := by rw [List.length_append, Sha.cQ, HA.out.1]; omega
      have O5 : Own w5 w2.heap.size A5 (n + (9 + Sha.bY n)) c5 (xs ++ Sha.pad xs.length) := by
        have := Own.app (ys := Sha.pad n) Vz
        rw [HA.out.1]; exact this
      simp only [Exit.then]
      rename_i hk
      refine hk _ _ ?_
      refine HP.out _ _ ⟨_, _, _, _, _, _, _, _, _, _, _, _, _, _, _, _, _, _, _, _, _, _, _, _, _, _, _, _, _, _, _, _, _, _, _, _, _, _, _, _, _, _, _, _, _, _, _, _, _, _, _, _, _, w1.heap.size, 0, _, c5, A5, rfl, ?_, hL, W5, ?_, ?_, ?_, ?_, ?_⟩
      · exact AT Vz
      · exact fun b off he => by have := Kq O5 he; omega
      · exact B4.out.trans (VP.mono Om)
      · exact (J4.out.grown WZ (by have := VO.out.lt; intro h; have := this _ h.symm; omega))
      · exact (K4.out.grown WZ (by have := VO.out.lt; intro h; have := this _ h.symm; omega))
      · exact O5.bs
    · omega
    · omega
    · omega
end
end Go.Proofs.YtgfafidlkldeaaaGreat
