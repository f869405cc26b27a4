/- What stands behind so many bytes: the code's tail. The number of bytes is at most 2^46. -/
import Derived.Test.YtjllhimhiekchaaSha1
namespace Go.Proofs.Ytjllhimhiekchaa
open Go.RowKit
theorem replicate_snoc (k : Nat) : (128 : UInt8) :: List.replicate k 0 ++ [0] = 128 :: List.replicate (k + 1) 0 := by
  rw [List.cons_append, ← List.replicate_succ']
set_option maxHeartbeats 1000000 in
theorem tail_any (n : Nat) (w : World) (hn : n ≤ 70368744177664) :
    Calls Try.prog 102 #[.int .i64 n] w fun e w' => ∃ A c, e = .returned (.slice A (9 + Sha.zeros n) c) ∧ Own w' w.heap.size A (9 + Sha.zeros n) c (Sha.pad n) ∧ Below w.heap.size w w' := by
  have hz : Sha.zeros n < 64 := Nat.mod_lt _ (by omega)
  go_enter Try.func102, Try.ntmps102
  go_wp2
  go_loopw [3] (fun v wr => ∃ (k : Nat) (A : Option Addr) (c : Nat), v = .slice A (1 + k) c ∧ k ≤ Sha.zeros n ∧ Below w.heap.size w wr ∧ Own wr w.heap.size A (1 + k) c (128 :: List.replicate k 0)) (fun v _ => 64 - (lenOf v))
  case atStart => exact ⟨0, _, _, rfl, by omega, (Below.refl _ _).alloc (Nat.le_refl _) _, Own.lit w (Nat.le_refl _) 128⟩
  case round =>
    obtain ⟨k, A, c, rfl, hk, hbw, hown⟩ := hrel
    by_cases hlt : k < Sha.zeros n
    · have ht : (((n : Int) + (1 + (k : Int))) % 64 != 56) = true := by rw [bne_iff_ne]; unfold Sha.zeros at hlt; omega
      go_wp2_with (at_builtin; refine app_own (w0 := w) rfl _ _ _ rfl _ _ eltB _ _ _ _ rfl (hown.alloc _) _ _ _ ([0].map bv) rfl rfl (Bs.one wr _ 0).2 (by intro u hu; exact bv_one u hu) ?_ ?_ (hbw.alloc hbw.size _) ?_ ?_; rotate_right; intro A2 c2 w2 hown2 hbw2 hg2 hl2)
      · go_roundw
        case rel => exact ⟨k + 1, A2, c2, rfl, by omega, hbw2, (Own.app (ys := [0]) hown2).congr rfl (replicate_snoc k)⟩
        case measure => simp [lenOf]; omega
      · omega
      · omega
      · have := hbw.size; simp; omega
    · have ht : (((n : Int) + (1 + (k : Int))) % 64 != 56) = false := by rw [bne_eq_false_iff_eq]; unfold Sha.zeros at hlt hk; omega
      go_wp2
      have hk' : k = Sha.zeros n := by omega
      have HK := Lib.hid hk'
      have hown' : Own wr w.heap.size A (1 + k + 0) c (128 :: List.replicate k 0 ++ (Sha.be64 (n * 8)).take 0) := hown.congr rfl (by simp)
      have HO := Lib.hid hown'; have HW := Lib.hid hbw
      clear hk' hown' hown hbw
      obtain ⟨wo, rfl⟩ : ∃ wo : World, wo = wr := ⟨_, rfl⟩
      go_loopw [3, 4] (fun v i wx => ∃ (j : Nat) (A : Option Addr) (c : Nat), v = .slice A (1 + k + j) c ∧ j ≤ 8 ∧ i = .int .i64 (7 - (j : Int)) ∧ Below w.heap.size w wx ∧ Own wx w.heap.size A (1 + k + j) c (128 :: List.replicate k 0 ++ (Sha.be64 (n * 8)).take j)) (fun v _ _ => 80 + k - (lenOf v))
      case atStart => exact ⟨0, A, c, rfl, by omega, rfl, HW.out, HO.out⟩
      case round =>
        obtain ⟨j, A1, c1, rfl, hj, rfl, hbx, hox⟩ := hrel
        by_cases hlt2 : j < 8
        · obtain rfl | rfl | rfl | rfl | rfl | rfl | rfl | rfl : j = 0 ∨ j = 1 ∨ j = 2 ∨ j = 3 ∨ j = 4 ∨ j = 5 ∨ j = 6 ∨ j = 7 := by omega
          · go_wp2_with (at_builtin; refine app_own (w0 := w) rfl _ _ _ rfl _ _ eltB _ _ _ _ rfl (hox.alloc _) _ _ _ ([UInt8.ofNat (n * 8 / 72057594037927936)].map bv) rfl rfl (Bs.oneE wr _ ?_).2 (by intro u hu; exact bv_one u hu) ?_ ?_ (hbx.alloc hbx.size _) ?_ ?_; rotate_right; intro A2 c2 w2 hown2 hbw2 hg2 hl2)
            · go_roundw
              case rel => exact ⟨1, A2, c2, rfl, by omega, rfl, hbw2, (Own.app (ys := [UInt8.ofNat (n * 8 / 72057594037927936)]) hown2).congr rfl (by rw [List.append_assoc]; rfl)⟩
              case measure => simp [lenOf]; omega
            · exact byte_val (by omega) (by omega) (by omega)
            · omega
            · omega
            · have := hbx.size; simp; omega
          · go_wp2_with (at_builtin; refine app_own (w0 := w) rfl _ _ _ rfl _ _ eltB _ _ _ _ rfl (hox.alloc _) _ _ _ ([UInt8.ofNat (n * 8 / 281474976710656)].map bv) rfl rfl (Bs.oneE wr _ ?_).2 (by intro u hu; exact bv_one u hu) ?_ ?_ (hbx.alloc hbx.size _) ?_ ?_; rotate_right; intro A2 c2 w2 hown2 hbw2 hg2 hl2)
            · go_roundw
              case rel => exact ⟨2, A2, c2, rfl, by omega, rfl, hbw2, (Own.app (ys := [UInt8.ofNat (n * 8 / 281474976710656)]) hown2).congr rfl (by rw [List.append_assoc]; rfl)⟩
              case measure => simp [lenOf]; omega
            · exact byte_val (by omega) (by omega) (by omega)
            · omega
            · omega
            · have := hbx.size; simp; omega
          · go_wp2_with (at_builtin; refine app_own (w0 := w) rfl _ _ _ rfl _ _ eltB _ _ _ _ rfl (hox.alloc _) _ _ _ ([UInt8.ofNat (n * 8 / 1099511627776)].map bv) rfl rfl (Bs.oneE wr _ ?_).2 (by intro u hu; exact bv_one u hu) ?_ ?_ (hbx.alloc hbx.size _) ?_ ?_; rotate_right; intro A2 c2 w2 hown2 hbw2 hg2 hl2)
            · go_roundw
              case rel => exact ⟨3, A2, c2, rfl, by omega, rfl, hbw2, (Own.app (ys := [UInt8.ofNat (n * 8 / 1099511627776)]) hown2).congr rfl (by rw [List.append_assoc]; rfl)⟩
              case measure => simp [lenOf]; omega
            · exact byte_val (by omega) (by omega) (by omega)
            · omega
            · omega
            · have := hbx.size; simp; omega
          · go_wp2_with (at_builtin; refine app_own (w0 := w) rfl _ _ _ rfl _ _ eltB _ _ _ _ rfl (hox.alloc _) _ _ _ ([UInt8.ofNat (n * 8 / 4294967296)].map bv) rfl rfl (Bs.oneE wr _ ?_).2 (by intro u hu; exact bv_one u hu) ?_ ?_ (hbx.alloc hbx.size _) ?_ ?_; rotate_right; intro A2 c2 w2 hown2 hbw2 hg2 hl2)
            · go_roundw
              case rel => exact ⟨4, A2, c2, rfl, by omega, rfl, hbw2, (Own.app (ys := [UInt8.ofNat (n * 8 / 4294967296)]) hown2).congr rfl (by rw [List.append_assoc]; rfl)⟩
              case measure => simp [lenOf]; omega
            · exact byte_val (by omega) (by omega) (by omega)
            · omega
            · omega
            · have := hbx.size; simp; omega
          · go_wp2_with (at_builtin; refine app_own (w0 := w) rfl _ _ _ rfl _ _ eltB _ _ _ _ rfl (hox.alloc _) _ _ _ ([UInt8.ofNat (n * 8 / 16777216)].map bv) rfl rfl (Bs.oneE wr _ ?_).2 (by intro u hu; exact bv_one u hu) ?_ ?_ (hbx.alloc hbx.size _) ?_ ?_; rotate_right; intro A2 c2 w2 hown2 hbw2 hg2 hl2)
            · go_roundw
              case rel => exact ⟨5, A2, c2, rfl, by omega, rfl, hbw2, (Own.app (ys := [UInt8.ofNat (n * 8 / 16777216)]) hown2).congr rfl (by rw [List.append_assoc]; rfl)⟩
              case measure => simp [lenOf]; omega
            · exact byte_val (by omega) (by omega) (by omega)
            · omega
            · omega
            · have := hbx.size; simp; omega
          · go_wp2_with (at_builtin; refine app_own (w0 := w) rfl _ _ _ rfl _ _ eltB _ _ _ _ rfl (hox.alloc _) _ _ _ ([UInt8.ofNat (n * 8 / 65536)].map bv) rfl rfl (Bs.oneE wr _ ?_).2 (by intro u hu; exact bv_one u hu) ?_ ?_ (hbx.alloc hbx.size _) ?_ ?_; rotate_right; intro A2 c2 w2 hown2 hbw2 hg2 hl2)
            · go_roundw
              case rel => exact ⟨6, A2, c2, rfl, by omega, rfl, hbw2, (Own.app (ys := [UInt8.ofNat (n * 8 / 65536)]) hown2).congr rfl (by rw [List.append_assoc]; rfl)⟩
              case measure => simp [lenOf]; omega
            · exact byte_val (by omega) (by omega) (by omega)
            · omega
            · omega
            · have := hbx.size; simp; omega
          · go_wp2_with (at_builtin; refine app_own (w0 := w) rfl _ _ _ rfl _ _ eltB _ _ _ _ rfl (hox.alloc _) _ _ _ ([UInt8.ofNat (n * 8 / 256)].map bv) rfl rfl (Bs.oneE wr _ ?_).2 (by intro u hu; exact bv_one u hu) ?_ ?_ (hbx.alloc hbx.size _) ?_ ?_; rotate_right; intro A2 c2 w2 hown2 hbw2 hg2 hl2)
            · go_roundw
              case rel => exact ⟨7, A2, c2, rfl, by omega, rfl, hbw2, (Own.app (ys := [UInt8.ofNat (n * 8 / 256)]) hown2).congr rfl (by rw [List.append_assoc]; rfl)⟩
              case measure => simp [lenOf]; omega
            · exact byte_val (by omega) (by omega) (by omega)
            · omega
            · omega
            · have := hbx.size; simp; omega
          · go_wp2_with (at_builtin; refine app_own (w0 := w) rfl _ _ _ rfl _ _ eltB _ _ _ _ rfl (hox.alloc _) _ _ _ ([UInt8.ofNat (n * 8)].map bv) rfl rfl (Bs.oneE wr _ ?_).2 (by intro u hu; exact bv_one u hu) ?_ ?_ (hbx.alloc hbx.size _) ?_ ?_; rotate_right; intro A2 c2 w2 hown2 hbw2 hg2 hl2)
            · go_roundw
              case rel => exact ⟨8, A2, c2, rfl, by omega, rfl, hbw2, (Own.app (ys := [UInt8.ofNat (n * 8)]) hown2).congr rfl (by rw [List.append_assoc]; rfl)⟩
              case measure => simp [lenOf]; omega
            · exact byte_val (by omega) (by omega) (by omega)
            · omega
            · omega
            · have := hbx.size; simp; omega
        · obtain rfl : j = 8 := by omega
          go_wp2
          go_ret
          refine ⟨A1, c1, ?_, hox.congr (by have := HK.out; omega) (by rw [HK.out]; rfl), hbx⟩
          show Ending.returned (.slice A1 (1 + k + 8) c1) = _
          rw [show 1 + k + 8 = 9 + Sha.zeros n from by have := HK.out; omega]
end Go.Proofs.Ytjllhimhiekchaa
