/- ratlineref01.Same: are two lists of bytes the same? Lengths within an int. -/
import Derived.Test.YtpgalbgonmclaaaMem
namespace Go.Proofs.Ytpgalbgonmclaaa
open Go.RowKit
theorem same_step {xs ys : List UInt8} {n k : Nat} (hx : xs.length = n) (hy : ys.length = n) (hk : k < n) (h : xs.take k = ys.take k) (e : xs.getD k 0 = ys.getD k 0) : xs.take (k + 1) = ys.take (k + 1) := by
  rw [List.take_succ_eq_append_getElem (by omega), List.take_succ_eq_append_getElem (by omega), h]
  congr 1
  simpa [hx, hy, hk] using e
theorem same_at {xs ys : List UInt8} {k : Nat} (e : xs.getD k 0 ≠ ys.getD k 0) : xs ≠ ys := fun h => e (by rw [h])
set_option maxHeartbeats 400000 in
theorem same_any (A B : Option Addr) (n m c d : Nat) (xs ys : List UInt8) (w : World) (ha : Bs w A n xs) (hb : Bs w B m ys) (hn : n ≤ 140737488355328) (hm : m ≤ 140737488355328) :
    Calls Try.prog 26 #[.slice A n c, .slice B m d] w fun e w' => e = .returned (.bool (decide (xs = ys))) ∧ ∃ k, w' = w.drewN k := by
  by_cases hnm : n = m
  · subst hnm
    have HA := Lib.hid ha; have HB := Lib.hid hb
    clear ha hb
    go_enter Try.func26, Try.ntmps26
    go_wp2
    go_loopw [5] (fun i wr => ∃ k q : Nat, k ≤ n ∧ i = .int .i64 k ∧ wr = w.drewN q ∧ xs.take k = ys.take k) (fun i _ => n - (intOf i).toNat)
    case atStart => exact ⟨0, 0, Nat.zero_le _, rfl, rfl, rfl⟩
    case round =>
      obtain ⟨k, q, hk, rfl, rfl, heq⟩ := hrel
      have HE := Lib.hid heq
      clear heq
      by_cases hlt : k < n
      · obtain ⟨b, off, x, rfl, hx, hcx⟩ := HA.out.byte hlt
        obtain ⟨b', off', y, rfl, hy, hcy⟩ := HB.out.byte hlt
        by_cases he : x = y
        · subst he
          go_wp2_with fail
          go_quiet (fail)
          go_wp2
          go_roundw
          case rel => exact ⟨k + 1, _, by omega, by go_num, rfl, same_step HA.out.1 HB.out.1 hlt HE.out (hx.out.symm.trans hy.out)⟩
          case measure => simp [intOf]; omega
        · have hne : ((x.toNat : Int) != (y.toNat : Int)) = true := by
            rw [bne_iff_ne]
            intro h
            exact he (UInt8.toNat_inj.1 (by omega))
          have hxy : xs ≠ ys := same_at (k := k) (by rw [← hx.out, ← hy.out]; exact he)
          have HXY := Lib.hid hxy
          clear hxy he
          go_wp2_with fail
          go_quiet (fail)
          go_wp2
          go_ret
          exact ⟨by rw [decide_eq_false HXY.out]; rfl, _, by rw [World.drewN_drewN]⟩
      · go_wp2
        go_ret
        have h := HE.out
        rw [List.take_of_length_le (by rw [HA.out.1]; omega), List.take_of_length_le (by rw [HB.out.1]; omega)] at h
        exact ⟨by rw [decide_eq_true h]; rfl, _, rfl⟩
  · have hxy : xs ≠ ys := fun e => hnm (by rw [← ha.1, ← hb.1, e])
    have HXY := Lib.hid hxy
    clear hxy ha hb
    go_enter Try.func26, Try.ntmps26
    go_wp2
    go_ret
    exact ⟨by rw [decide_eq_false HXY.out]; rfl, 0, rfl⟩
end Go.Proofs.Ytpgalbgonmclaaa
