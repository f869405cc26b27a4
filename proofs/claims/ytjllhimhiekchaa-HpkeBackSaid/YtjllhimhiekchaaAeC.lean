/- aes: a column is mixed in its place. No conditions: contracts of functions. -/
import Derived.Test.YtjllhimhiekchaaAeB
import Derived.Test.YtjllhimhiekchaaVs
namespace Go.Proofs.Ytjllhimhiekchaa
open Go.RowKit
attribute [local irreducible] Y Ef WL WC WK WQ WM OpM WN WF OpN WJ OpJ
open Ae
namespace Ae
def cell (l : List UInt8) (k : Nat) : Nat := (l.getD k 0).toNat
theorem c8 (l : List UInt8) (k : Nat) : cell l k < 256 := UInt8.toNat_lt _
def mxv (m : List UInt8) (off i all fst : Nat) : Nat := cell m (off + i) ^^^ (all ^^^ tm (cell m (off + i) ^^^ (if i < 3 then cell m (off + (i + 1)) else fst)) 2)
def mxs (l : List UInt8) (off all fst : Nat) : Nat → List UInt8
  | 0 => l
  | i + 1 => (mxs l off all fst i).set (off + i) (UInt8.ofNat (mxv (mxs l off all fst i) off i all fst))
theorem mxs_length (l : List UInt8) (off all fst : Nat) : ∀ i, (mxs l off all fst i).length = l.length
  | 0 => rfl
  | i + 1 => by rw [mxs, List.length_set, mxs_length l off all fst i]
def mix (l : List UInt8) (off : Nat) : List UInt8 := mxs l off (((cell l (off + 0) ^^^ cell l (off + 1)) ^^^ cell l (off + 2)) ^^^ cell l (off + 3)) (cell l (off + 0)) 4
theorem mix_length (l : List UInt8) (off : Nat) : (mix l off).length = l.length := mxs_length _ _ _ _ _
theorem x8 {a b : Nat} (ha : a < 256) (hb : b < 256) : a ^^^ b < 256 := Nat.xor_lt_two_pow (n := 8) ha hb
end Ae
theorem bget {w : World} {g k : Nat} {t : TypeId} {l : List UInt8} (B : Blk w g t (bys l)) (h : k < l.length) : w.cell? ⟨g, k, none⟩ = some (.int .u8 ((Ae.cell l k : Nat) : Int)) := by
  rw [B.cell]; unfold bys Ae.cell
  rw [List.getElem?_toArray, List.getElem?_map, List.getElem?_eq_getElem h, List.getD_eq_getElem?_getD, List.getElem?_eq_getElem h]; rfl
theorem mix_any {g off c : Nat} {t : TypeId} {l : List UInt8} (w : World) (B0 : Blk w g t (bys l)) (h : off + 4 ≤ l.length) :
    Calls Try.prog 79 #[.slice (some ⟨g, off, none⟩) 4 c] w fun e w' => e = .returned (.tuple #[]) ∧ Blk w' g t (bys (mix l off)) ∧ Chs [g] w w' := by
  have F := Chs.refl [g] w
  have B := B0
  obtain ⟨all, hall⟩ : ∃ a, a = ((cell l (off + 0) ^^^ cell l (off + 1)) ^^^ cell l (off + 2)) ^^^ cell l (off + 3) := ⟨_, rfl⟩
  have hall8 : all < 256 := by rw [hall]; exact x8 (x8 (x8 (c8 _ _) (c8 _ _)) (c8 _ _)) (c8 _ _)
  obtain ⟨fst, hfst⟩ : ∃ a, a = cell l (off + 0) := ⟨_, rfl⟩
  have hf8 : fst < 256 := by rw [hfst]; exact c8 _ _
  have hM : mix l off = mxs l off all fst 4 := by rw [hall, hfst]; rfl
  refine vc_enter0 51 Try.func79 rfl rfl rfl rfl ?_
  intro Q hret
  refine wc_seq ?_; intro K1 hK1
  refine wc_draw (by kernel_rfl) 16 rfl ?_; intro wd0 ex hd0
  replace F := F.ext ex
  replace B := B.ext ex
  refine wm_y 0 rfl (by kernel_rfl) (y_move rfl) rfl ?_
  refine wm_y 1 rfl (by kernel_rfl) (y_ixs1 rfl rfl Try.underlying22 (by kernel_rfl) (j := 0) (by omega) (by omega)) rfl ?_
  refine wm_y 2 rfl (by kernel_rfl) (y_load1 rfl Try.underlying5 rfl (bget B (k := off + 0) (by omega))) rfl ?_
  refine wm_y 3 rfl (by kernel_rfl) (y_move rfl) rfl ?_
  refine wm_y 4 rfl (by kernel_rfl) (y_ixs1 rfl rfl Try.underlying22 (by kernel_rfl) (j := 1) (by omega) (by omega)) rfl ?_
  refine wm_y 5 rfl (by kernel_rfl) (y_load1 rfl Try.underlying5 rfl (bget B (k := off + 1) (by omega))) rfl ?_
  refine wm_y 6 rfl (by kernel_rfl) (y_xor rfl rfl ((bits_u8 (c8 _ _) (c8 _ _)).2.2)) rfl ?_
  refine wm_y 7 rfl (by kernel_rfl) (y_move rfl) rfl ?_
  refine wm_y 8 rfl (by kernel_rfl) (y_ixs1 rfl rfl Try.underlying22 (by kernel_rfl) (j := 2) (by omega) (by omega)) rfl ?_
  refine wm_y 9 rfl (by kernel_rfl) (y_load1 rfl Try.underlying5 rfl (bget B (k := off + 2) (by omega))) rfl ?_
  refine wm_y 10 rfl (by kernel_rfl) (y_xor rfl rfl ((bits_u8 (x8 (c8 _ _) (c8 _ _)) (c8 _ _)).2.2)) rfl ?_
  refine wm_y 11 rfl (by kernel_rfl) (y_move rfl) rfl ?_
  refine wm_y 12 rfl (by kernel_rfl) (y_ixs1 rfl rfl Try.underlying22 (by kernel_rfl) (j := 3) (by omega) (by omega)) rfl ?_
  refine wm_y 13 rfl (by kernel_rfl) (y_load1 rfl Try.underlying5 rfl (bget B (k := off + 3) (by omega))) rfl ?_
  refine wm_y 14 rfl (by kernel_rfl) (y_xor rfl rfl ((bits_u8 (x8 (x8 (c8 _ _) (c8 _ _)) (c8 _ _)) (c8 _ _)).2.2)) rfl ?_
  refine wm_y 15 rfl (by kernel_rfl) (y_assign rfl) rfl ?_
  refine wm_done (by kernel_rfl) ?_
  refine wq_nop ?_
  refine wq_then_norm (hK1 ?_)
  refine wc_seq ?_; intro K2 hK2
  refine wc_region ?_
  refine wl_y (y_move rfl) rfl ?_
  refine wl_y (y_ixs1 rfl rfl Try.underlying22 (by kernel_rfl) (j := 0) (by omega) (by omega)) rfl ?_
  refine wl_y (y_load1 rfl Try.underlying5 rfl (bget B (k := off + 0) (by omega))) rfl ?_
  refine wl_y (y_assign rfl) rfl ?_
  refine wl_nil ?_
  refine wq_then_norm (hK2 ?_)
  refine wc_seq ?_; intro K3 hK3
  refine wc_region ?_
  refine wl_y (y_move rfl) rfl ?_
  refine wl_nil ?_
  refine wq_then_norm (hK3 ?_)
  refine wc_block ?_
  rw [← hall, ← hfst]
  refine wc_loop (fun n' L wr => ∃ (i : Nat), L = [(0, .slice (some ⟨g, off, none⟩) 4 c), (2, .int .u8 ((all : Nat) : Int)), (3, .int .u8 ((fst : Nat) : Int)), (24, .int .i64 (i : Int))] ∧ n' = 4 - i ∧ (i ≤ 4 ∧ Chs [g] w wr ∧ Blk wr g t (bys (mxs l off all fst i)))) _ _ ⟨0, rfl, rfl, Nat.zero_le _, F, B⟩ ⟨rfl, (by first | rfl | exact congrArg some (int_val (by omega))), (by first | rfl | exact congrArg some (int_val (by omega))), (by first | rfl | exact congrArg some (int_val (by omega))), trivial⟩ ?_
  rintro KL1 n' L wr ⟨i, rfl, rfl, hi, F, B⟩ hL1
  refine wc_seq ?_; intro K4 hK4
  refine wc_region ?_
  refine wl_y (y_lss rfl rfl) rfl ?_
  refine wl_nil ?_
  refine wq_then_norm (hK4 ?_)
  refine wc_seq ?_; intro K5 hK5
  refine wc_dec rfl (fun hc1 => ?_) (fun hc1 => ?_)
  · skip
    refine wc_skip ?_
    refine wq_then_norm (hK5 ?_)
    refine wc_seq ?_; intro K6 hK6
    refine wc_block ?_
    refine wc_seq ?_; intro K7 hK7
    refine wc_region ?_
    refine wl_y (y_move rfl) rfl ?_
    refine wl_y (y_assign rfl) rfl ?_
    refine wl_nil ?_
    refine wq_then_norm (hK7 ?_)
    refine wc_seq ?_; intro K8 hK8
    obtain ⟨M, hMM⟩ : ∃ M, M = mxs l off all fst i := ⟨_, rfl⟩
    have hMl : M.length = l.length := by rw [hMM]; exact mxs_length _ _ _ _ _
    rw [← hMM] at B
    obtain ⟨nx, hnx⟩ : ∃ n, n = (if i < 3 then cell M (off + (i + 1)) else fst) := ⟨_, rfl⟩
    have hn8 : nx < 256 := by rw [hnx]; split; exact c8 _ _; exact hf8
    refine wc_region ?_
    refine wl_y (y_move rfl) rfl ?_
    refine wl_y (y_assign rfl) rfl ?_
    refine wl_nil ?_
    refine wq_then_norm (hK8 ?_)
    refine wc_seq ?_; intro K9 hK9
    refine wc_seq ?_; intro K10 hK10
    refine wc_region ?_
    refine wl_y (y_move rfl) rfl ?_
    refine wl_y (y_lss rfl rfl) rfl ?_
    refine wl_nil ?_
    refine wq_then_norm (hK10 ?_)
    refine wc_dec rfl (fun hc2 => ?_) (fun hc2 => ?_)
    · skip
      refine wc_region ?_
      refine wl_y (y_move rfl) rfl ?_
      refine wl_y (y_move rfl) rfl ?_
      refine wl_y (y_add rfl rfl (i64_ok (by omega) (by omega))) rfl ?_
      refine wl_y (y_ixs1 rfl rfl Try.underlying22 (by kernel_rfl) (j := i + 1) (by omega) (by omega)) rfl ?_
      refine wl_y (y_load1 rfl Try.underlying5 rfl (show _ = some (.int .u8 ((nx : Nat) : Int)) by rw [hnx, if_pos (by omega)]; exact bget B (k := off + (i + 1)) (by omega))) rfl ?_
      refine wl_y (y_assign rfl) rfl ?_
      refine wl_nil ?_
      refine wq_then_norm (hK9 ?_)
      refine wc_drawJ [(15, [g])] (by kernel_rfl) 16 rfl ?_; intro wd8 ex hd8
      replace F := F.ext ex
      replace B := B.ext ex
      refine wj_y 0 [] rfl (by kernel_rfl) (fun wr (cr : Chs ([]) _ wr) => y_move rfl) rfl ?_
      refine wj_y 1 [] rfl (by kernel_rfl) (fun wr (cr : Chs ([]) _ wr) => y_move rfl) rfl ?_
      refine wj_y 2 [] rfl (by kernel_rfl) (fun wr (cr : Chs ([]) _ wr) => y_ixs1 rfl rfl Try.underlying22 (by kernel_rfl) (j := i) (by omega) (by omega)) rfl ?_
      refine wj_y 3 [] rfl (by kernel_rfl) (fun wr (cr : Chs ([]) _ wr) => y_load1 rfl Try.underlying5 rfl (bget (B.chs cr) (k := off + i) (by omega))) rfl ?_
      refine wj_y 4 [] rfl (by kernel_rfl) (fun wr (cr : Chs ([]) _ wr) => y_move rfl) rfl ?_
      refine wj_y 5 [] rfl (by kernel_rfl) (fun wr (cr : Chs ([]) _ wr) => y_move rfl) rfl ?_
      refine wj_y 6 [] rfl (by kernel_rfl) (fun wr (cr : Chs ([]) _ wr) => y_move rfl) rfl ?_
      refine wj_y 7 [] rfl (by kernel_rfl) (fun wr (cr : Chs ([]) _ wr) => y_ixs1 rfl rfl Try.underlying22 (by kernel_rfl) (j := i) (by omega) (by omega)) rfl ?_
      refine wj_y 8 [] rfl (by kernel_rfl) (fun wr (cr : Chs ([]) _ wr) => y_load1 rfl Try.underlying5 rfl (bget (B.chs cr) (k := off + i) (by omega))) rfl ?_
      refine wj_y 9 [] rfl (by kernel_rfl) (fun wr (cr : Chs ([]) _ wr) => y_move rfl) rfl ?_
      refine wj_y 10 [] rfl (by kernel_rfl) (fun wr (cr : Chs ([]) _ wr) => y_xor rfl rfl ((bits_u8 (c8 _ _) hn8).2.2)) rfl ?_
      refine wj_one 11 (by kernel_rfl) ?_; refine oj_call rfl Try.func93 rfl rfl rfl (times_any (cell M (off + i) ^^^ nx) 2 (x8 (c8 _ _) hn8) (by omega) _) rfl ?_
      rintro e w8 ⟨rfl, ht8, ex⟩
      refine ⟨_, rfl, Chs.of ex _, ?_⟩
      replace F := F.ext ex
      replace B := B.ext ex
      skip
      refine wj_y 12 [] rfl (by kernel_rfl) (fun wr (cr : Chs ([]) _ wr) => y_xor rfl rfl ((bits_u8 hall8 ht8).2.2)) rfl ?_
      refine wj_y 13 [] rfl (by kernel_rfl) (fun wr (cr : Chs ([]) _ wr) => y_xor rfl rfl ((bits_u8 (c8 _ _) (x8 hall8 ht8)).2.2)) rfl ?_
      refine wj_y 14 [] rfl (by kernel_rfl) (fun wr (cr : Chs ([]) _ wr) => y_ixs1 rfl rfl Try.underlying22 (by kernel_rfl) (j := i) (by omega) (by omega)) rfl ?_
      refine wj_one 15 (by kernel_rfl) ?_; refine oj_ef rfl (ef_storeB rfl rfl rfl (by kernel_rfl) B (by rw [bys_size]; omega)) rfl ?_
      rintro _ w9 ⟨rfl, D, cg⟩
      have ex := Chs.one cg
      refine ⟨ex, ?_⟩
      clear cg; rw [← u8_ofNat (x8 (c8 _ _) (x8 hall8 ht8)), bys_put] at D
      replace F := F.chs ex
      refine wj_done (by kernel_rfl) ?_
      refine wq_nop ?_
      refine wq_blk_norm ?_
      refine wq_then_norm (hK6 ?_)
      refine wc_region ?_
      refine wl_y (y_add rfl rfl (i64_ok (by omega) (by omega))) rfl ?_
      refine wl_y (y_move rfl) rfl ?_
      refine wl_nil ?_
      refine wq_then_norm ?_
      refine hL1 _ _ ⟨i + 1, rfl, rfl, by omega, F, (by rw [mxs, ← hMM]; unfold mxv; rw [← hnx]; exact D)⟩ (by omega) ⟨rfl, (by first | rfl | exact congrArg some (int_val (by omega))), (by first | rfl | exact congrArg some (int_val (by omega))), (by first | rfl | exact congrArg some (int_val (by omega))), trivial⟩
    · skip
      refine wc_skip ?_
      refine wq_then_norm (hK9 ?_)
      have hx : fst = nx := by rw [hnx, if_neg (by omega)]
      rw [hx]
      refine wc_drawJ [(15, [g])] (by kernel_rfl) 16 rfl ?_; intro wd8 ex hd8
      replace F := F.ext ex
      replace B := B.ext ex
      refine wj_y 0 [] rfl (by kernel_rfl) (fun wr (cr : Chs ([]) _ wr) => y_move rfl) rfl ?_
      refine wj_y 1 [] rfl (by kernel_rfl) (fun wr (cr : Chs ([]) _ wr) => y_move rfl) rfl ?_
      refine wj_y 2 [] rfl (by kernel_rfl) (fun wr (cr : Chs ([]) _ wr) => y_ixs1 rfl rfl Try.underlying22 (by kernel_rfl) (j := i) (by omega) (by omega)) rfl ?_
      refine wj_y 3 [] rfl (by kernel_rfl) (fun wr (cr : Chs ([]) _ wr) => y_load1 rfl Try.underlying5 rfl (bget (B.chs cr) (k := off + i) (by omega))) rfl ?_
      refine wj_y 4 [] rfl (by kernel_rfl) (fun wr (cr : Chs ([]) _ wr) => y_move rfl) rfl ?_
      refine wj_y 5 [] rfl (by kernel_rfl) (fun wr (cr : Chs ([]) _ wr) => y_move rfl) rfl ?_
      refine wj_y 6 [] rfl (by kernel_rfl) (fun wr (cr : Chs ([]) _ wr) => y_move rfl) rfl ?_
      refine wj_y 7 [] rfl (by kernel_rfl) (fun wr (cr : Chs ([]) _ wr) => y_ixs1 rfl rfl Try.underlying22 (by kernel_rfl) (j := i) (by omega) (by omega)) rfl ?_
      refine wj_y 8 [] rfl (by kernel_rfl) (fun wr (cr : Chs ([]) _ wr) => y_load1 rfl Try.underlying5 rfl (bget (B.chs cr) (k := off + i) (by omega))) rfl ?_
      refine wj_y 9 [] rfl (by kernel_rfl) (fun wr (cr : Chs ([]) _ wr) => y_move rfl) rfl ?_
      refine wj_y 10 [] rfl (by kernel_rfl) (fun wr (cr : Chs ([]) _ wr) => y_xor rfl rfl ((bits_u8 (c8 _ _) hn8).2.2)) rfl ?_
      refine wj_one 11 (by kernel_rfl) ?_; refine oj_call rfl Try.func93 rfl rfl rfl (times_any (cell M (off + i) ^^^ nx) 2 (x8 (c8 _ _) hn8) (by omega) _) rfl ?_
      rintro e w8 ⟨rfl, ht8, ex⟩
      refine ⟨_, rfl, Chs.of ex _, ?_⟩
      replace F := F.ext ex
      replace B := B.ext ex
      skip
      refine wj_y 12 [] rfl (by kernel_rfl) (fun wr (cr : Chs ([]) _ wr) => y_xor rfl rfl ((bits_u8 hall8 ht8).2.2)) rfl ?_
      refine wj_y 13 [] rfl (by kernel_rfl) (fun wr (cr : Chs ([]) _ wr) => y_xor rfl rfl ((bits_u8 (c8 _ _) (x8 hall8 ht8)).2.2)) rfl ?_
      refine wj_y 14 [] rfl (by kernel_rfl) (fun wr (cr : Chs ([]) _ wr) => y_ixs1 rfl rfl Try.underlying22 (by kernel_rfl) (j := i) (by omega) (by omega)) rfl ?_
      refine wj_one 15 (by kernel_rfl) ?_; refine oj_ef rfl (ef_storeB rfl rfl rfl (by kernel_rfl) B (by rw [bys_size]; omega)) rfl ?_
      rintro _ w9 ⟨rfl, D, cg⟩
      have ex := Chs.one cg
      refine ⟨ex, ?_⟩
      clear cg; rw [← u8_ofNat (x8 (c8 _ _) (x8 hall8 ht8)), bys_put] at D
      replace F := F.chs ex
      refine wj_done (by kernel_rfl) ?_
      refine wq_nop ?_
      refine wq_blk_norm ?_
      refine wq_then_norm (hK6 ?_)
      refine wc_region ?_
      refine wl_y (y_add rfl rfl (i64_ok (by omega) (by omega))) rfl ?_
      refine wl_y (y_move rfl) rfl ?_
      refine wl_nil ?_
      refine wq_then_norm ?_
      refine hL1 _ _ ⟨i + 1, rfl, rfl, by omega, F, (by rw [mxs, ← hMM]; unfold mxv; rw [← hnx]; exact D)⟩ (by omega) ⟨rfl, (by first | rfl | exact congrArg some (int_val (by omega))), (by first | rfl | exact congrArg some (int_val (by omega))), (by first | rfl | exact congrArg some (int_val (by omega))), trivial⟩
  · skip
    refine wc_exit ?_
    refine wq_then_exit ?_
    refine wq_then_exit ?_
    refine wq_blk_hit ?_
    refine hret (.inr rfl) ?_
    obtain rfl : i = 4 := by omega
    rw [← hM] at B
    exact ⟨rfl, B, F⟩
end Go.Proofs.Ytjllhimhiekchaa
