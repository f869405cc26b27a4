/- What the digest's small functions compute: the turn, the constants, the tail. No conditions. -/
import Derived.Test.YtpgalbgonmclaaaMem
import Derived.Test.YtpgalbgonmclaaaSha
namespace Go.Proofs.Ytpgalbgonmclaaa
open Go.RowKit

theorem rl7 : bits .and .u64 (IntKind.u64.wrap (-7)) 31 = 25 := by decide +kernel
theorem rl18 : bits .and .u64 (IntKind.u64.wrap (-18)) 31 = 14 := by decide +kernel
theorem rl17 : bits .and .u64 (IntKind.u64.wrap (-17)) 31 = 15 := by decide +kernel
theorem rl19 : bits .and .u64 (IntKind.u64.wrap (-19)) 31 = 13 := by decide +kernel
theorem rl6 : bits .and .u64 (IntKind.u64.wrap (-6)) 31 = 26 := by decide +kernel
theorem rl11 : bits .and .u64 (IntKind.u64.wrap (-11)) 31 = 21 := by decide +kernel
theorem rl25 : bits .and .u64 (IntKind.u64.wrap (-25)) 31 = 7 := by decide +kernel
theorem rl2 : bits .and .u64 (IntKind.u64.wrap (-2)) 31 = 30 := by decide +kernel
theorem rl13 : bits .and .u64 (IntKind.u64.wrap (-13)) 31 = 19 := by decide +kernel
theorem rl22 : bits .and .u64 (IntKind.u64.wrap (-22)) 31 = 10 := by decide +kernel

theorem rot_fin (x n : Nat) (hx : x < 4294967296) (hn : n ≤ 32) (p q : Int) (hp : p = ((x * 2 ^ (32 - n) % 4294967296 : Nat) : Int)) (hq : q = ((x / 2 ^ n : Nat) : Int)) :
    Ending.returned (.int .u32 (bits .or .u32 p q)) = .returned (.int .u32 (Sha.rotr x n : Nat)) := by
  subst hp; subst hq
  rw [u32_or_nat _ _ (Nat.mod_lt _ (by omega)) (Nat.lt_of_le_of_lt (Nat.div_le_self _ _) hx), Sha.rotr_or hx hn]

set_option maxHeartbeats 1000000 in
theorem right_any (x : Nat) (n : Int) (w : World) (hx : x < 4294967296) (hn : n = 7 ∨ n = 18 ∨ n = 17 ∨ n = 19 ∨ n = 6 ∨ n = 11 ∨ n = 25 ∨ n = 2 ∨ n = 13 ∨ n = 22) :
    Calls Try.prog 218 #[.int .u32 x, .int .i64 n] w fun e w' => e = .returned (.int .u32 (Sha.rotr x n.toNat : Nat)) ∧ w = w' := by
  have h7 := rl7; have h18 := rl18; have h17 := rl17; have h19 := rl19; have h6 := rl6
  have h11 := rl11; have h25 := rl25; have h2 := rl2; have h13 := rl13; have h22 := rl22
  rcases hn with rfl | rfl | rfl | rfl | rfl | rfl | rfl | rfl | rfl | rfl
  all_goals
    go_enter Try.func218, Try.ntmps218
    go_wp2
    go_ret
    exact ⟨rot_fin x _ hx (by decide) _ _ (by simp) (by simp), rfl⟩

theorem z64 : (Try.prog.info? 212).map (fun i => i.zero.map (·.cells)) = some (some (nums .u32 (zrs 64))) := by kernel_rfl
theorem z8 : (Try.prog.info? 202).map (fun i => i.zero.map (·.cells)) = some (some (nums .u32 (zrs 8))) := by kernel_rfl
theorem s64 : (Try.prog.info? 212).map (·.size) = some 64 := by kernel_rfl
theorem s8 : (Try.prog.info? 202).map (·.size) = some 8 := by kernel_rfl

set_option maxRecDepth 100000 in
set_option maxHeartbeats 400000 in
theorem const_any (w : World) : Calls Try.prog 217 #[] w fun e w' => e = .returned (.agg (nums .u32 Sha.K)) ∧ Below w.heap.size w w' := by
  go_enter Try.func217, Try.ntmps217
  go_wp2_with (first | refine arr_alloc rfl _ rfl _ z64 w.heap.size rfl ?_ | refine arr_build rfl _ _ rfl (nums .u32 Sha.K) (by kernel_rfl) ?_ | refine arr_store rfl _ _ _ rfl w.heap.size (nums .u32 Sha.K) rfl rfl _ _ (Blk.new w _ _) 64 s64 rfl rfl (nums_one _ _) ?_)
  exact arr_ret rfl w.heap.size _ _ _ rfl ((Blk.new w _ _).row _) Try.underlying212 rfl 64 s64 rfl rfl ⟨rfl, bel_row ((Below.refl _ _).alloc (Nat.le_refl _) _) (Nat.le_refl _) _⟩
set_option maxHeartbeats 400000 in
theorem begin_any (w : World) : Calls Try.prog 206 #[] w fun e w' => e = .returned (.agg (nums .u32 Sha.H0)) ∧ Below w.heap.size w w' := by
  go_enter Try.func206, Try.ntmps206
  go_wp2_with (first | refine arr_alloc rfl _ rfl _ z8 w.heap.size rfl ?_ | refine arr_build rfl _ _ rfl (nums .u32 Sha.H0) (by kernel_rfl) ?_ | refine arr_store rfl _ _ _ rfl w.heap.size (nums .u32 Sha.H0) rfl rfl _ _ (Blk.new w _ _) 8 s8 rfl rfl (nums_one _ _) ?_)
  exact arr_ret rfl w.heap.size _ _ _ rfl ((Blk.new w _ _).row _) Try.underlying202 rfl 8 s8 rfl rfl ⟨rfl, bel_row ((Below.refl _ _).alloc (Nat.le_refl _) _) (Nat.le_refl _) _⟩

end Go.Proofs.Ytpgalbgonmclaaa
