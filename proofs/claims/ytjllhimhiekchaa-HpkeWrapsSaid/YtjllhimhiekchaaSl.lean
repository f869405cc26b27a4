/- slices.Clone, Grow (of nil) and Concat, of bytes: what each hands back, in new memory. Lengths up to 2^46. -/
import Derived.Test.YtjllhimhiekchaaSha
import Derived.Test.YtjllhimhiekchaaLib
import Derived.Test.YtjllhimhiekchaaRow
import Derived.Lib.SliceRun
import Derived.Lib.AppendZeros
/- The tag as a plain function on bytes. No program in sight. Numbers, lengths and vectors as bytes, and what is expanded: plain functions on lists. No program in sight. -/
namespace Go.Proofs.Ytjllhimhiekchaa
section
namespace Mac
/-- A key of 64 bytes. -/
def k64 (key : List UInt8) : List UInt8 := let k := if 64 < key.length then Sha.sum key else key; k ++ zbs (64 - k.length)
def held (key : List UInt8) (c : UInt8) : List UInt8 := (k64 key).map (· ^^^ c)
def tag (key text : List UInt8) : List UInt8 := Sha.sum (held key 92 ++ Sha.sum (held key 54 ++ text))
theorem k64_length (key : List UInt8) : (k64 key).length = 64 := by
  unfold k64
  by_cases h : 64 < key.length
  · simp [h, zbs, Sha.sum_length]
  · simp [h, zbs]; omega
theorem held_length (key : List UInt8) (c : UInt8) : (held key c).length = 64 := by simp [held, k64_length]
theorem tag_length (key text : List UInt8) : (tag key text).length = 32 := Sha.sum_length _
end Mac
end
section
namespace Wire
/-- k bytes of a number, the highest first. -/
def be : Nat → Nat → List UInt8
  | 0, _ => []
  | k + 1, n => be k (n / 256) ++ [UInt8.ofNat n]
theorem be_length : ∀ (k n : Nat), (be k n).length = k
  | 0, _ => rfl
  | k + 1, n => by simp [be, be_length k]
theorem be_front : ∀ (k n : Nat), be (k + 1) n = [UInt8.ofNat (n / 256 ^ k)] ++ be k n
  | 0, n => by simp [be]
  | k + 1, n => by
    rw [be, be_front k (n / 256)]
    rw [be]
    simp [Nat.div_div_eq_div_mul, Nat.pow_succ, Nat.mul_comm]
def len (n : Nat) : List UInt8 :=
  if n < 64 then [UInt8.ofNat n]
  else if n < 16384 then [UInt8.ofNat (64 + n / 256), UInt8.ofNat (n % 256)]
  else [UInt8.ofNat (128 + n / 16777216), UInt8.ofNat (n / 65536 % 256), UInt8.ofNat (n / 256 % 256), UInt8.ofNat (n % 256)]
def vec (v : List UInt8) : List UInt8 := len v.length ++ v
end Wire
namespace Kdf
def T (secret info : List UInt8) : Nat → List UInt8
  | 0 => []
  | k + 1 => Mac.tag secret (T secret info k ++ info ++ [UInt8.ofNat (k + 1)])
def okm (secret info : List UInt8) : Nat → List UInt8
  | 0 => []
  | k + 1 => okm secret info k ++ T secret info (k + 1)
theorem T_length (s i : List UInt8) (k : Nat) : (T s i (k + 1)).length = 32 := Mac.tag_length _ _
theorem T_le (s i : List UInt8) (k : Nat) : (T s i k).length ≤ 32 := by cases k <;> simp [T, Mac.tag_length]
theorem okm_length (s i : List UInt8) : ∀ k, (okm s i k).length = 32 * k
  | 0 => rfl
  | k + 1 => by rw [okm, List.length_append, okm_length s i k, T_length]; omega
theorem okm_take (s i : List UInt8) (n : Nat) : ∀ k j, n ≤ 32 * k → k ≤ j → (okm s i j).take n = (okm s i k).take n := by
  intro k j hn hk
  induction j with
  | zero => (obtain rfl : k = 0 := (by omega)); rfl
  | succ j ih =>
    by_cases h : k = j + 1
    · rw [h]
    · rw [okm, List.take_append_of_le_length (by rw [okm_length]; omega), ih (by omega)]
/-- n bytes. -/
def expand (s i : List UInt8) (n : Nat) : List UInt8 := (okm s i ((n + 31) / 32)).take n
theorem expand_length (s i : List UInt8) (n : Nat) : (expand s i n).length = n := by rw [expand, List.length_take, okm_length]; omega
theorem expand_of (s i : List UInt8) (n k : Nat) (h : n ≤ 32 * k) : (okm s i k).take n = expand s i n := okm_take s i n _ k (by omega) (by omega)
def mls : List UInt8 := [77, 76, 83, 32, 49, 46, 48, 32]
def info (label context : List UInt8) (n : Nat) : List UInt8 := Wire.be 2 n ++ Wire.vec (mls ++ label) ++ Wire.vec context
def label (secret l context : List UInt8) (n : Nat) : List UInt8 := expand secret (info l context n) n
end Kdf
end
end Go.Proofs.Ytjllhimhiekchaa

namespace Go.Proofs.Ytjllhimhiekchaa
open Go.RowKit

theorem Own.made (w : World) (base cap : Nat) (cur : Array Value) (hb : base ≤ w.heap.size) (hm : cap ≤ maxLen) (hs : cur.size = cap) : Own (w.alloc (.cells cur 5)) base (some ⟨w.heap.size, 0, none⟩) 0 cap [] :=
  World.ownsRow_made w cur cap hb hm (by omega)

set_option maxHeartbeats 400000 in
theorem clone_any (A : Option Addr) (n c : Nat) (xs : List UInt8) (w : World) (ha : Bs w A n xs) (hn : n ≤ 140737488355328) :
    Calls Try.prog 65 #[.slice A n c] w fun e w' => ∃ A' c', e = .returned (.slice A' n c') ∧ Own w' w.heap.size A' n c' xs ∧ Below w.heap.size w w' := by
  have heq := fun (w : World) => Lib.run_eql_slice_nil (P := Try.prog) w _ _ A n c 0 0 Try.underlying22
  rcases A with _ | ad
  · have hx : xs = [] := by
      rcases ha.2 with h | ⟨b, off, h, _⟩
      · simpa using h
      · cases h
    have hn0 : n = 0 := by rw [← ha.1, hx]; rfl
    subst hx; subst hn0
    go_enter Try.func65, Try.ntmps65
    go_wp2
    go_ret
    exact ⟨none, 0, rfl, Own.empty _ _, Below.refl _ _⟩
  · have HA := Lib.hid ha
    clear ha
    go_enter Try.func65, Try.ntmps65
    go_wp2_with (at_builtin; refine app_own (w0 := w) rfl _ _ _ rfl _ _ eltB w.heap.size _ 0 [] rfl (Own.made w w.heap.size 0 #[] (Nat.le_refl _) (by unfold maxLen; omega) rfl) (some ad) n c (xs.map bv) rfl (by rw [List.length_map]; exact HA.out.1) (HA.out.2.below ((Below.refl _ _).alloc (Nat.le_refl _) _)) (by intro u hu; exact bv_one u hu) ?_ ?_ ((Below.refl _ _).alloc (Nat.le_refl _) _) ?_ ?_; rotate_right; intro A2 c2 w2 hown2 hbw2 _ _)
    · go_ret
      refine ⟨A2, c2, rfl, ?_, hbw2⟩
      rw [Nat.zero_add] at hown2
      exact hown2
    · omega
    · omega
    · simp

theorem infoB : (Try.prog.info? 5).map (fun i => (i.zero, i.size, i.bytes)) = some (some (.int .u8 0), 1, 1) := by kernel_rfl

set_option maxHeartbeats 400000 in
theorem grow_any (n : Nat) (w : World) (hn : n ≤ 140737488355328) :
    Calls Try.prog 76 #[.slice none 0 0, .int .i64 n] w fun e w' => ∃ A' c', e = .returned (.slice A' 0 c') ∧ Own w' w.heap.size A' 0 c' [] ∧ Below w.heap.size w w' := by
  by_cases h0 : 0 < n
  · obtain ⟨i, hi, hz, hs, hb⟩ := info_parts infoB
    have hrun := fun (ty : TypeId) => Lib.run_append_nil_zeros (P := Try.prog) w 22 3 ty 5 i _ .i64 .i64 Try.underlying22 Try.underlying3 hi hz n h0 (by omega) (by omega) (by rw [hb]; omega)
    have hge := grownCap_ge w n 0 5
    have hle := grownCap_le_maxLen w n 0 5 (by unfold maxLen; omega)
    generalize grownCap w n 0 5 = cap at *
    have HR := Lib.hid hrun
    clear hrun hz hs hb hi
    go_enter Try.func76, Try.ntmps76
    go_wp2_with (at_builtin; refine Lib.wpList_append_run w rfl (.tmp 20) (.tmp 21) _ _ rfl _ _ rfl rfl _ _ (HR.out _) ?_)
    go_ret
    refine ⟨_, _, rfl, ?_, ((Below.refl _ _).drew).alloc (by simp) _⟩
    exact Own.made w.drew w.heap.size cap _ (Nat.le_refl _) hle (by simp [Builtin.zeroCells]; omega)
  · obtain rfl : n = 0 := by omega
    go_enter Try.func76, Try.ntmps76
    go_wp2
    go_ret
    exact ⟨none, 0, rfl, Own.empty _ _, Below.refl _ _⟩
set_option maxHeartbeats 1000000 in
theorem concat_any (A : Option Addr) (n c : Nat) (xss : List (List UInt8)) (w : World) (ha : Bss w A n xss) (hn : n ≤ 70368744177664) (hlen : xss.flatten.length ≤ 70368744177664) :
    Calls Try.prog 56 #[.slice A n c] w fun e w' => ∃ A' m c', e = .returned (.slice A' m c') ∧ Own w' w.heap.size A' m c' xss.flatten ∧ Below w.heap.size w w' := by
  have HA := Lib.hid ha
  have HN : Hid (xss.length = n) := ha.1
  clear ha
  go_enter Try.func56, Try.ntmps56
  go_wp2
  go_loop [3, 5, 11] (fun s _ i => ∃ k F : Nat, k ≤ n ∧ i = .int .i64 k ∧ s = .int .i64 F ∧ F = (xss.take k).flatten.length) (fun _ _ i => n - (intOf i).toNat)
  case atStart => exact ⟨0, 0, by omega, rfl, rfl, rfl⟩
  case round =>
    obtain ⟨k, F, hk, rfl, rfl, hF⟩ := hrel
    have hle0 := flatten_take_le xss k
    rw [← hF] at hle0
    have hF1 : F ≤ 70368744177664 := Nat.le_trans hle0 hlen
    have HF := Lib.hid hF
    clear hF hle0
    by_cases hlt : k < n
    · obtain ⟨b, off, B, m, c1, xs, rfl, hxs, hcell, hB⟩ := HA.out.get hlt
      have hsum : (xss.take (k + 1)).flatten.length = F + m := by
        rw [flatten_take_succ _ _ (by rw [HN.out]; exact hlt), List.length_append, ← hxs.out, hB.1, ← HF.out]
      have hle := flatten_take_le xss (k + 1)
      rw [hsum] at hle
      have HS := Lib.hid hsum
      have hF2 : F + m ≤ 70368744177664 := Nat.le_trans hle hlen
      have hq : (k : Int) < n := by omega
      have HL := Lib.hid hlen
      clear hsum hle hB hlen
      go_wp2
      go_round
      case rel => exact ⟨k + 1, F + m, by omega, by go_num, by go_num, HS.out.symm⟩
      case measure => simp [intOf]; omega
    · go_wp2_with fail
      refine (grow_any _ _ (by omega)).mono ?_
      rintro e w1 ⟨A1, c1, rfl, hown1, hb1⟩
      have HO := Lib.hid hown1; have HB := Lib.hid hb1
      clear hown1 hb1
      go_wp2
      go_loopw [6, 8, 27] (fun v _ i wr => ∃ (k m : Nat) (A' : Option Addr) (c' : Nat), k ≤ n ∧ i = .int .i64 k ∧ v = .slice A' m c' ∧ Below w.heap.size w wr ∧ Own wr w.heap.size A' m c' (xss.take k).flatten) (fun _ _ i _ => n - (intOf i).toNat)
      case atStart => exact ⟨0, 0, A1, c1, by omega, rfl, rfl, HB.out, HO.out⟩
      case round =>
        obtain ⟨k, m, A', c', hk, rfl, rfl, hbw, hown⟩ := hrel
        by_cases hlt2 : k < n
        · obtain ⟨b, off, B, mm, c2, xs, rfl, hxs, hcell, hB⟩ := (HA.out.below hbw).get hlt2
          have hm := hown.len
          have hle := flatten_take_le xss (k + 1)
          rw [flatten_take_succ _ _ (by rw [HN.out]; exact hlt2), List.length_append, ← hxs.out, hB.1, hm] at hle
          have hq : (k : Int) < n := by omega
          have HM := Lib.hid hm; have HB1 := Lib.hid hB
          clear hm hB
          go_wp2_with (at_builtin; refine app_own (w0 := w) rfl _ _ _ rfl _ _ eltB w.heap.size _ _ _ rfl hown _ _ _ (xs.map bv) rfl (by rw [List.length_map]; exact HB1.out.1) HB1.out.2 (by intro u hu; exact bv_one u hu) ?_ ?_ hbw ?_ ?_; rotate_right; intro A2 c2 w2 hown2 hbw2 _ _)
          · go_roundw
            case rel => exact ⟨k + 1, _, A2, c2, by omega, by go_num, rfl, hbw2, (Own.app hown2).congr rfl (by rw [flatten_take_succ _ _ (by rw [HN.out]; exact hlt2), ← hxs.out])⟩
            case measure => simp [intOf]; omega
          · omega
          · omega
          · exact hbw.size
        · go_wp2
          go_ret
          exact ⟨A', m, c', rfl, hown.congr rfl (by rw [List.take_of_length_le (by rw [HN.out]; omega)]), hbw⟩

end Go.Proofs.Ytjllhimhiekchaa
