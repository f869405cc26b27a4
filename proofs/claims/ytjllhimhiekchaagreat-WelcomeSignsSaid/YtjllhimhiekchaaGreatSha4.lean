/- What stands behind so many bytes: the code's tail. The number of bytes is at most 2^46. -/
import Derived.Test.YtjllhimhiekchaaGreatSha2
/- What a block does to the state: the code's step. No conditions but that the block has 64 bytes. -/
namespace Go.Proofs.YtjllhimhiekchaaGreat
open Go.RowKit
theorem sz32 : (Tryz.prog.info? 235).map (·.size) = some 1 := by kernel_rfl
theorem ch_bits (e f g : Nat) (he : e < 4294967296) (hf : f < 4294967296) (hg : g < 4294967296) :
  bits .xor .u32 (bits .and .u32 (e : Int) (f : Int)) (bits .and .u32 (bits .xor .u32 IntKind.u32.max (e : Int)) (g : Int)) = ((Sha.ch e f g : Nat) : Int) := by
 have h1 : bits .xor .u32 IntKind.u32.max (e : Int) = ((4294967295 - e : Nat) : Int) := by
  show bits .xor .u32 ((4294967295 : Nat) : Int) (e : Int) = _
  rw [u32_xor_nat _ _ (by omega) he]
  congr 1
  apply Nat.eq_of_testBit_eq
  intro i
  have h1 := Nat.testBit_two_pow_sub_succ (n := 32) he i
  have h2 := Nat.testBit_two_pow_sub_one 32 i
  rw [show (2 : Nat) ^ 32 - (e + 1) = 4294967295 - e from by omega] at h1
  rw [show (2 : Nat) ^ 32 - 1 = 4294967295 from rfl] at h2
  rw [Nat.testBit_xor, h1, h2]
  by_cases hi : i < 32
  ·simp [hi]
  ·have : e.testBit i = false := Nat.testBit_lt_two_pow (Nat.lt_of_lt_of_le he (Nat.pow_le_pow_right (n := 2) (by omega) (by omega : 32 ≤ i)))
   simp [hi, this]
 rw [h1, u32_and_nat _ _ he hf, u32_and_nat _ _ (by omega) hg, u32_xor_nat _ _ (Sha.and_lt he) (Sha.and_lt (by omega))]
 rfl
theorem maj_bits (a b c : Nat) (ha : a < 4294967296) (hb : b < 4294967296) (hc : c < 4294967296) :
  bits .xor .u32 (bits .xor .u32 (bits .and .u32 (a : Int) (b : Int)) (bits .and .u32 (a : Int) (c : Int))) (bits .and .u32 (b : Int) (c : Int)) = ((Sha.maj a b c : Nat) : Int) := by
 rw [u32_and_nat _ _ ha hb, u32_and_nat _ _ ha hc, u32_and_nat _ _ hb hc, xor3 _ _ _ (Sha.and_lt ha) (Sha.and_lt ha) (Sha.and_lt hb)]
 rfl
theorem blk_rnd {w : World} {g' : Nat} {t : TypeId} {a b c d e f g h kt wt : Nat} {x y : Int} (hb : Blk w g' t (nums .u32 [a, a, b, c, d, e, f, g])) (hx : x = (((d + Sha.T1 ⟨a, b, c, d, e, f, g, h⟩ kt wt) % 4294967296 : Nat) : Int))
  (hy : y = (((Sha.T1 ⟨a, b, c, d, e, f, g, h⟩ kt wt + Sha.T2 ⟨a, b, c, d, e, f, g, h⟩) % 4294967296 : Nat) : Int)) :
  Blk ((w.setCell ⟨g', 4, none⟩ (.int .u32 x)).setCell ⟨g', 0, none⟩ (.int .u32 y)) g' t (nums .u32 (Sha.rnd ⟨a, b, c, d, e, f, g, h⟩ kt wt).list) := by
 subst hx; subst hy
 exact (hb.set 4 _).set 0 _
theorem s8_lt {s : Sha.S8} (h : s.ok) (i : Nat) : s.list.getD i 0 < 4294967296 := by
 obtain ⟨h1, h2, h3, h4, h5, h6, h7, h8⟩ := h
 refine Sha.getD_lt ?_ i
 simp only [Sha.S8.list, List.mem_cons, List.not_mem_nil, or_false]
 rintro x (rfl | rfl | rfl | rfl | rfl | rfl | rfl | rfl) <;> assumption
theorem blk_new1 (w : World) (o : Obj) (t : TypeId) (cs : Array Value) : Blk ((w.alloc o).alloc (.cells cs t)) (w.heap.size + 1) t cs := by
 have := Blk.new (w.alloc o) t cs; rw [World.size_alloc] at this; exact this
theorem blk_new2 (w : World) {n : Nat} (t : TypeId) (cs : Array Value) (h : w.heap.size = n) : Blk (w.alloc (.cells cs t)) n t cs := by
 subst h; exact Blk.new w t cs
set_option maxRecDepth 100000 in
set_option maxHeartbeats 1000000 in
theorem step_any (A : Option Addr) (c : Nat) (xs : List UInt8) (g : Nat) (s : Sha.S8) (w : World) (ha : Bs w A 64 xs) (hs : s.ok)
   (hg : Blk w g 290 (nums .u32 s.list)) :
   Calls Tryz.prog 256 #[.pointer (some ⟨g, 0, none⟩), .slice A 64 c] w fun e w' => e = .returned (.tuple #[]) ∧ Blk w' g 290 (nums .u32 (Sha.step s xs).list) ∧ w.grownBy w' (some g) := by
  go_enter Tryz.func256, Tryz.ntmps256
  go_wp2_with fail
  refine (words_any _ _ _ _ ha).mono ?_
  rintro e w1 ⟨rfl, hb1⟩
  go_wp2_with fail
  refine (const_any _).mono ?_
  rintro e w2 ⟨rfl, hb2⟩
  have hbb : Below w.heap.size w w2 := hb1.trans (hb2.mono hb1.size)
  have hg2 : Blk w2 g 290 (nums .u32 s.list) := hg.kept hbb
  have hgl := hg2.lt
  have hsz : w.heap.size ≤ w2.heap.size := hbb.size
  have HG := Lib.hid hg2
  have HB := Lib.hid hbb
  clear hb1 hb2 hg2 hbb
  go_wp2_with (first
    | refine arr_alloc rfl _ rfl _ z64 w2.heap.size rfl ?_
    | refine arr_alloc rfl _ rfl _ z64 (w2.heap.size + 1) (by simp) ?_
    | refine arr_store rfl _ (.tmp 4) (.tmp 14) rfl w2.heap.size (nums .u32 (Sha.words xs)) rfl rfl _ _ ((Blk.new w2 _ _).alloc _) 64 s64 (by rw [nums_size, Sha.words_length]) rfl (nums_one _ _) ?_
    | (refine arr_store rfl _ (.tmp 5) (.tmp 15) rfl (w2.heap.size + 1) (nums .u32 Sha.K) rfl rfl _ _ ((blk_new1 w2 _ _ _).rowFar (by omega) _) 64 s64 rfl rfl (nums_one _ _) ?_
       obtain ⟨w3, hw3⟩ : ∃ w3, w3 = (((w2.alloc (.cells (nums .u32 (zrs 64)) 307)).alloc (.cells (nums .u32 (zrs 64)) 307)).setRow w2.heap.size (nums .u32 (Sha.words xs))).setRow (w2.heap.size + 1) (nums .u32 Sha.K) := ⟨_, rfl⟩
       have q4 : Blk w3 w2.heap.size 307 (nums .u32 (Sha.words xs)) := by rw [hw3]; exact ((((Blk.new w2 _ _).alloc _).row _).rowFar (by omega) _)
       have q5 : Blk w3 (w2.heap.size + 1) 307 (nums .u32 Sha.K) := by rw [hw3]; exact (((blk_new1 w2 _ _ _).rowFar (by omega) _).row _)
       have qg : Blk w3 g 290 (nums .u32 s.list) := by rw [hw3]; exact ((((HG.out.alloc _).alloc _).rowFar (by omega) _).rowFar (by omega) _)
       have qb : Below w2.heap.size w2 w3 := by rw [hw3]; exact bel_row (bel_row (((Below.refl _ _).alloc (Nat.le_refl _) _).alloc (by simp) _) (Nat.le_refl _) _) (by omega) _
       have qs : w3.heap.size = w2.heap.size + 2 := by rw [hw3]; simp [World.setRow]
       rw [← hw3]
       have Q4 := Lib.hid q4; have Q5 := Lib.hid q5; have QG := Lib.hid qg; have QB := Lib.hid qb; have QS := Lib.hid qs
       clear q4 q5 qg qb qs hw3)
    | refine arr_load rfl _ (.tmp 17) rfl g rfl _ _ _ QG.out Tryz.underlying290 rfl 8 s8 rfl ?_
    | refine arr_alloc rfl _ rfl _ z8 (w2.heap.size + 2) QS.out ?_
    | refine arr_store rfl _ (.tmp 6) (.tmp 18) rfl (w2.heap.size + 2) (nums .u32 s.list) rfl rfl _ _ (blk_new2 _ _ _ QS.out) 8 s8 rfl rfl (nums_one _ _) ?_)
  go_loopw [7, 8, 9, 10, 11, 19] (fun _ _ _ _ _ i wr => ∃ t : Nat, t ≤ 64 ∧ i = .int .i64 t ∧ Below w2.heap.size w2 wr ∧ w2.heap.size + 3 ≤ wr.heap.size ∧ Blk wr w2.heap.size 307 (nums .u32 (Sha.words xs)) ∧ Blk wr (w2.heap.size + 1) 307 (nums .u32 Sha.K)
      ∧ Blk wr (w2.heap.size + 2) 290 (nums .u32 (Sha.rounds (Sha.words xs) s t).list)) (fun _ _ _ _ _ i _ => 64 - (intOf i).toNat)
  case atStart => exact ⟨0, by omega, rfl, bel_row (QB.out.alloc (by rw [QS.out]; omega) _) (by omega) _, by simp [World.setRow, QS.out], (Q4.out.alloc _).rowFar (by omega) _, (Q5.out.alloc _).rowFar (by omega) _, (blk_new2 _ _ _ QS.out).row _⟩
  case round =>
    obtain ⟨t, ht, rfl, hbx, hsx, hk1, hk2, hk3⟩ := hrel
    have HK1 := Lib.hid hk1; have HK2 := Lib.hid hk2; have HK3 := Lib.hid hk3; have HX := Lib.hid hbx
    clear hk1 hk2 hk3 hbx Q4 Q5 QB QS
    by_cases hlt : t < 64
    · obtain ⟨R, hR⟩ : ∃ R, Hid (R = Sha.rounds (Sha.words xs) s t) := ⟨_, rfl⟩
      have hok : R.ok := by rw [hR.out]; exact Sha.rounds_ok _ hs _
      obtain ⟨a, b, c', d, e, f, g', hh⟩ := R
      obtain ⟨la, lb, lc, ld, le, lf, lg, lh⟩ := hok
      obtain ⟨kt, hkt⟩ : ∃ q, Hid (q = Sha.K.getD t 0) := ⟨_, rfl⟩
      obtain ⟨wt, hwt⟩ : ∃ q, Hid (q = (Sha.words xs).getD t 0) := ⟨_, rfl⟩
      have lk : kt < 4294967296 := by rw [hkt.out]; exact Sha.getD_lt Sha.K_lt _
      have lw : wt < 4294967296 := by rw [hwt.out]; exact Sha.getD_lt (Sha.words_lt xs) _
      have hk3' : Blk wr (w2.heap.size + 2) 290 (nums .u32 [a, b, c', d, e, f, g', hh]) := by have := HK3.out; rw [← hR.out] at this; exact this
      have HK3' := Lib.hid hk3'
      clear hk3' HK3
      have x0 : wr.cell? ⟨w2.heap.size + 2, 0, none⟩ = some (.int .u32 a) := by rw [HK3'.out.cell]; rfl
      have x1 : wr.cell? ⟨w2.heap.size + 2, 1, none⟩ = some (.int .u32 b) := by rw [HK3'.out.cell]; rfl
      have x2 : wr.cell? ⟨w2.heap.size + 2, 2, none⟩ = some (.int .u32 c') := by rw [HK3'.out.cell]; rfl
      have x4 : wr.cell? ⟨w2.heap.size + 2, 4, none⟩ = some (.int .u32 e) := by rw [HK3'.out.cell]; rfl
      have x5 : wr.cell? ⟨w2.heap.size + 2, 5, none⟩ = some (.int .u32 f) := by rw [HK3'.out.cell]; rfl
      have x6 : wr.cell? ⟨w2.heap.size + 2, 6, none⟩ = some (.int .u32 g') := by rw [HK3'.out.cell]; rfl
      have x7 : wr.cell? ⟨w2.heap.size + 2, 7, none⟩ = some (.int .u32 hh) := by rw [HK3'.out.cell]; rfl
      have y1 : wr.cell? ⟨w2.heap.size, t, none⟩ = some (.int .u32 wt) := by rw [HK1.out.cell, hwt.out]; exact nums_get _ _ _ (by rw [Sha.words_length]; omega)
      have y2 : wr.cell? ⟨w2.heap.size + 1, t, none⟩ = some (.int .u32 kt) := by rw [HK2.out.cell, hkt.out]; exact nums_get _ _ _ (by show t < 64; omega)
      have hq5 : (t : Int) < 64 := by omega
      go_wp2_with fail
      go_quiet (fail)
      obtain ⟨n1, rfl⟩ : ∃ n : Nat, n = nq := ⟨_, rfl⟩
      go_wp2_with fail
      go_quiet ((go_at_call 269; first | exact qsame (right_any _ _ _ (by assumption) (by omega)) | exact qsame_add (right_any _ _ _ (by assumption) (by omega))))
      obtain ⟨n2, rfl⟩ : ∃ n : Nat, n = nq := ⟨_, rfl⟩
      go_wp2_with fail
      go_quiet ((go_at_call 269; first | exact qsame (right_any _ _ _ (by assumption) (by omega)) | exact qsame_add (right_any _ _ _ (by assumption) (by omega))))
      obtain ⟨n3, rfl⟩ : ∃ n : Nat, n = nq := ⟨_, rfl⟩
      have z1 : Hid (Blk ((wr.drewN (n1 + n2)).drewN n3) w2.heap.size 307 (nums .u32 (Sha.words xs))) := HK1.out
      have z2 : Hid (Blk ((wr.drewN (n1 + n2)).drewN n3) (w2.heap.size + 1) 307 (nums .u32 Sha.K)) := HK2.out
      have z3 : Hid (Blk ((wr.drewN (n1 + n2)).drewN n3) (w2.heap.size + 2) 290 (nums .u32 [a, b, c', d, e, f, g', hh])) := HK3'.out
      have z4 : Hid (Below w2.heap.size w2 ((wr.drewN (n1 + n2)).drewN n3)) := bel_drewN (bel_drewN HX.out _) _
      have z5 : w2.heap.size + 3 ≤ ((wr.drewN (n1 + n2)).drewN n3).heap.size := hsx
      go_wp2_with fail
      generalize (wr.drewN (n1 + n2)).drewN n3 = wy at *
      clear HK1 HK2 HK3' HX hsx x0 x1 x2 x4 x5 x6 x7 y1 y2
      go_still_tail 2, (by kernel_rfl)
      change wpList _ _ _ _ _ wy.drew
      refine copy_blk rfl _ _ _ _ _ rfl (w2.heap.size + 2) 1 7 7 (some ⟨w2.heap.size + 2, 0, none⟩) 7 8 _ _ ([a, b, c', d, e, f, g'].map (iv .u32)) rfl rfl Tryz.underlying311 sz32 z3.out (z3.out.at 0 _ (nums_pre .u32 [a, b, c', d, e, f, g'] [hh])) rfl (Nat.le_refl 8) iv_one ?_
      have v3 : Hid (Blk (wy.drew.setRow (w2.heap.size + 2) (nums .u32 [a, a, b, c', d, e, f, g'])) (w2.heap.size + 2) 290 (nums .u32 [a, a, b, c', d, e, f, g'])) := z3.out.row (w := wy.drew) _
      have v1 : Hid (Blk (wy.drew.setRow (w2.heap.size + 2) (nums .u32 [a, a, b, c', d, e, f, g'])) w2.heap.size 307 (nums .u32 (Sha.words xs))) := z1.out.rowFar (w := wy.drew) (by omega) _
      have v2 : Hid (Blk (wy.drew.setRow (w2.heap.size + 2) (nums .u32 [a, a, b, c', d, e, f, g'])) (w2.heap.size + 1) 307 (nums .u32 Sha.K)) := z2.out.rowFar (w := wy.drew) (by omega) _
      have v4 : Hid (Below w2.heap.size w2 (wy.drew.setRow (w2.heap.size + 2) (nums .u32 [a, a, b, c', d, e, f, g']))) := bel_row z4.out.drew (by omega) _
      have v5 : w2.heap.size + 3 ≤ (wy.drew.setRow (w2.heap.size + 2) (nums .u32 [a, a, b, c', d, e, f, g'])).heap.size := by rw [size_setRow]; exact z5
      change wpList _ _ _ _ _ (wy.drew.setRow (w2.heap.size + 2) (nums .u32 [a, a, b, c', d, e, f, g']))
      generalize wy.drew.setRow (w2.heap.size + 2) (nums .u32 [a, a, b, c', d, e, f, g']) = wz at *
      clear z1 z2 z3 z4 z5
      have x4 : wz.cell? ⟨w2.heap.size + 2, 4, none⟩ = some (.int .u32 d) := by rw [v3.out.cell]; rfl
      have x0 : wz.cell? ⟨w2.heap.size + 2, 0, none⟩ = some (.int .u32 a) := by rw [v3.out.cell]; rfl
      have f4 := v3.out.frozen 4
      have f0 := v3.out.frozen 0
      go_wp2
      go_roundw
      case rel =>
        rw [xor3 _ _ _ (Sha.rotr_lt le (by omega)) (Sha.rotr_lt le (by omega)) (Sha.rotr_lt le (by omega)), xor3 _ _ _ (Sha.rotr_lt la (by omega)) (Sha.rotr_lt la (by omega)) (Sha.rotr_lt la (by omega)), ch_bits e f g' le lf lg, maj_bits a b c' la lb lc]
        refine ⟨t + 1, by omega, by go_num, (v4.out.setCell (by show _ ≤ w2.heap.size + 2; omega) _).setCell (by show _ ≤ w2.heap.size + 2; omega) _, by rw [size_setCell, size_setCell]; exact v5, (v1.out.far (by show _ ≠ w2.heap.size + 2; omega) _).far (by show _ ≠ w2.heap.size + 2; omega) _, (v2.out.far (by show _ ≠ w2.heap.size + 2; omega) _).far (by show _ ≠ w2.heap.size + 2; omega) _, ?_⟩
        have e1 : Sha.rounds (Sha.words xs) s (t + 1) = Sha.rnd ⟨a, b, c', d, e, f, g', hh⟩ kt wt := by
          rw [hR.out, hkt.out, hwt.out]; rfl
        rw [e1]
        exact blk_rnd v3.out (by simp only [Sha.T1, Sha.S1]; omega) (by simp only [Sha.T1, Sha.T2, Sha.S1, Sha.S0]; omega)
      case measure => simp [intOf]; omega
    · have hk3' : Blk wr (w2.heap.size + 2) 290 (nums .u32 (Sha.rounds (Sha.words xs) s 64).list) := by
        have h := HK3.out
        rw [show t = 64 from by omega] at h
        exact h
      have hgr : w.grownBy wr (some g) := grown_then (grown_below HB.out (Nat.le_refl _) _) HX.out
      have hgg : Blk wr g 290 (nums .u32 s.list) := HG.out.kept HX.out
      have HK3' := Lib.hid hk3'; have HGR := Lib.hid hgr; have HGG := Lib.hid hgg
      clear hk3' HK3 hgr hgg HK1 HK2 HX QG
      go_wp2
      obtain ⟨wo, rfl⟩ : ∃ wo : World, wo = wr := ⟨_, rfl⟩
      obtain ⟨m, hm⟩ : ∃ m, Hid (m = (Sha.rounds (Sha.words xs) s 64).list) := ⟨_, rfl⟩
      obtain ⟨l, hl⟩ : ∃ l, Hid (l = s.list) := ⟨_, rfl⟩
      have h8m : m.length = 8 := by rw [hm.out]; rfl
      have h8l : l.length = 8 := by rw [hl.out]; rfl
      have okl : ∀ i, l.getD i 0 < 4294967296 := by rw [hl.out]; exact s8_lt hs
      have okm : ∀ i, m.getD i 0 < 4294967296 := by rw [hm.out]; exact s8_lt (Sha.rounds_ok _ hs _)
      have H8m := Lib.hid h8m; have H8l := Lib.hid h8l; have OKL := Lib.hid okl; have OKM := Lib.hid okm
      clear h8m h8l okl okm
      go_loopw [12, 93] (fun _ i wx => ∃ k : Nat, k ≤ 8 ∧ i = .int .i64 k ∧ w.grownBy wx (some g) ∧ w2.heap.size + 3 ≤ wx.heap.size ∧ Blk wx g 290 (nums .u32 (Sha.mixl l m k)) ∧ Blk wx (w2.heap.size + 2) 290 (nums .u32 m)) (fun _ i _ => 8 - (intOf i).toNat)
      case atStart => exact ⟨0, by omega, rfl, HGR.out, hsx, by rw [Sha.mixl_zero, hl.out]; exact HGG.out, by rw [hm.out]; exact HK3'.out⟩
      case round =>
        obtain ⟨k, hk, rfl, hg1, hs1, hb1, hb2⟩ := hrel
        have HB1 := Lib.hid hb1; have HB2 := Lib.hid hb2; have HG1 := Lib.hid hg1
        clear hb1 hb2 hg1 HGR HGG HK3'
        by_cases hlt : k < 8
        · obtain ⟨p, hp⟩ : ∃ p, Hid (p = l.getD k 0) := ⟨_, rfl⟩
          obtain ⟨q, hq⟩ : ∃ q, Hid (q = m.getD k 0) := ⟨_, rfl⟩
          have lp : p < 4294967296 := by rw [hp.out]; exact OKL.out _
          have lq : q < 4294967296 := by rw [hq.out]; exact OKM.out _
          have x1 : wr.cell? ⟨g, k, none⟩ = some (.int .u32 p) := by
            rw [HB1.out.cell, nums_get _ _ _ (by rw [Sha.mixl_length (H8l.out.trans H8m.out.symm) (by rw [H8l.out]; omega), H8l.out]; omega), Sha.mixl_get (H8l.out.trans H8m.out.symm) (by rw [H8l.out]; omega), hp.out]
          have x2 : wr.cell? ⟨w2.heap.size + 2, k, none⟩ = some (.int .u32 q) := by rw [HB2.out.cell, hq.out]; exact nums_get _ _ _ (by rw [H8m.out]; omega)
          have f1 := HB1.out.frozen k
          have hq8 : (k : Int) < 8 := by omega
          go_wp2_with fail
          go_still_tail 11, (by kernel_rfl)
          change wpList _ _ _ _ _ wr.drew
          go_wp2
          go_roundw
          case rel =>
            refine ⟨k + 1, by omega, by go_num, grown_set (grown_drew HG1.out) (.inl rfl) _, by show _ ≤ (World.setCell wr _ _).heap.size; rw [size_setCell]; exact hs1, ?_, HB2.out.far (w := wr.drew) (by show _ ≠ g; omega) _⟩
            have h := HB1.out.set (w := wr.drew) k (.int .u32 (((p + q) % 4294967296 : Nat) : Int))
            rw [nums_set, hp.out, hq.out, Sha.mixl_set (H8l.out.trans H8m.out.symm) (by rw [H8l.out]; omega)] at h
            rw [hp.out, hq.out]
            exact h
          case measure => simp [intOf]; omega
        · go_wp2
          go_end0
          have h := HB1.out
          rw [show k = 8 from by omega, hl.out, hm.out] at h
          exact ⟨rfl, h, HG1.out⟩
end Go.Proofs.YtjllhimhiekchaaGreat

namespace Go.Proofs.YtjllhimhiekchaaGreat
open Go.RowKit
theorem replicate_snoc (k : Nat) : (128 : UInt8) :: List.replicate k 0 ++ [0] = 128 :: List.replicate (k + 1) 0 := by
 rw [List.cons_append, ← List.replicate_succ']
set_option maxHeartbeats 1000000 in
theorem tail_any (n : Nat) (w : World) (hn : n ≤ 70368744177664) :
  Calls Tryz.prog 255 #[.int .i64 n] w fun e w' => ∃ A c, e = .returned (.slice A (9 + Sha.zeros n) c) ∧ Own w' w.heap.size A (9 + Sha.zeros n) c (Sha.pad n) ∧ Below w.heap.size w w' := by
 have hz : Sha.zeros n < 64 := Nat.mod_lt _ (by omega)
 go_enter Tryz.func255, Tryz.ntmps255
 go_wp2
 go_loopw [3] (fun v wr => ∃ (k : Nat) (A : Option Addr) (c : Nat), v = .slice A (1 + k) c ∧ k ≤ Sha.zeros n ∧ Below w.heap.size w wr ∧ Own wr w.heap.size A (1 + k) c (128 :: List.replicate k 0)) (fun v _ => 64 - (lenOf v))
 case atStart => exact ⟨0, _, _, rfl, by omega, (Below.refl _ _).alloc (Nat.le_refl _) _, Own.lit w (Nat.le_refl _) 128⟩
 case round =>
  obtain ⟨k, A, c, rfl, hk, hbw, hown⟩ := hrel
  by_cases hlt : k < Sha.zeros n
  ·have ht : (((n : Int) + (1 + (k : Int))) % 64 != 56) = true := by rw [bne_iff_ne]; unfold Sha.zeros at hlt; omega
   go_wp2_with (at_builtin; refine app_own (w0 := w) rfl _ _ _ rfl _ _ eltB _ _ _ _ rfl (hown.alloc _) _ _ _ ([0].map bv) rfl rfl (Bs.one wr _ 0).2 (by intro u hu; exact bv_one u hu) ?_ ?_ (hbw.alloc hbw.size _) ?_ ?_; rotate_right; intro A2 c2 w2 hown2 hbw2 hg2 hl2)
   ·go_roundw
    case rel => exact ⟨k + 1, A2, c2, rfl, by omega, hbw2, (Own.app (ys := [0]) hown2).congr rfl (replicate_snoc k)⟩
    case measure => simp [lenOf]; omega
   ·omega
   ·omega
   ·have := hbw.size; simp; omega
  ·have ht : (((n : Int) + (1 + (k : Int))) % 64 != 56) = false := by rw [bne_eq_false_iff_eq]; unfold Sha.zeros at hlt hk; omega
   go_wp2
   have hk' : k = Sha.zeros n := by omega
   have HK := Lib.hid hk'
   have hown' : Own wr w.heap.size A (1 + k + 0) c (128 :: List.replicate k 0 ++ (Sha.be64 (n * 8)).take 0) := hown.congr rfl (by simp)
   have HO := Lib.hid hown'; have HW := Lib.hid hbw
   clear hk' hown' hown hbw
   obtain ⟨wo, rfl⟩ : ∃ wo : World, wo = wr := ⟨_, rfl⟩
   go_loopw [3, 4] (fun v i wx => ∃ (j : Nat) (A : Option Addr) (c : Nat), v = .slice A (1 + k + j) c ∧ j ≤ 8 ∧ i = .int .i64 (7 - (j : Int)) ∧ Below w.heap.size w wx ∧ Own wx w.heap.size A (1 + k + j) c (128 :: List.replicate k 0 ++ (Sha.be64 (n * 8)).take j)) (fun v _ _ => 80 + k - (lenOf v))
   case atStart => exact ⟨0, A, c, rfl, by omega, rfl, HW.out, HO.out⟩
   case round =>
    obtain ⟨j, A1, c1, rfl, hj, rfl, hbx, hox⟩ := hrel
    by_cases hlt2 : j < 8
    ·obtain rfl | rfl | rfl | rfl | rfl | rfl | rfl | rfl : j = 0 ∨ j = 1 ∨ j = 2 ∨ j = 3 ∨ j = 4 ∨ j = 5 ∨ j = 6 ∨ j = 7 := by omega
     ·go_wp2_with (at_builtin; refine app_own (w0 := w) rfl _ _ _ rfl _ _ eltB _ _ _ _ rfl (hox.alloc _) _ _ _ ([UInt8.ofNat (n * 8 / 72057594037927936)].map bv) rfl rfl (Bs.oneE wr _ ?_).2 (by intro u hu; exact bv_one u hu) ?_ ?_ (hbx.alloc hbx.size _) ?_ ?_; rotate_right; intro A2 c2 w2 hown2 hbw2 hg2 hl2)
      ·go_roundw
       case rel => exact ⟨1, A2, c2, rfl, by omega, rfl, hbw2, (Own.app (ys := [UInt8.ofNat (n * 8 / 72057594037927936)]) hown2).congr rfl (by rw [List.append_assoc]; rfl)⟩
       case measure => simp [lenOf]; omega
      ·exact byte_val (by omega) (by omega) (by omega)
      ·omega
      ·omega
      ·have := hbx.size; simp; omega
     ·go_wp2_with (at_builtin; refine app_own (w0 := w) rfl _ _ _ rfl _ _ eltB _ _ _ _ rfl (hox.alloc _) _ _ _ ([UInt8.ofNat (n * 8 / 281474976710656)].map bv) rfl rfl (Bs.oneE wr _ ?_).2 (by intro u hu; exact bv_one u hu) ?_ ?_ (hbx.alloc hbx.size _) ?_ ?_; rotate_right; intro A2 c2 w2 hown2 hbw2 hg2 hl2)
      ·go_roundw
       case rel => exact ⟨2, A2, c2, rfl, by omega, rfl, hbw2, (Own.app (ys := [UInt8.ofNat (n * 8 / 281474976710656)]) hown2).congr rfl (by rw [List.append_assoc]; rfl)⟩
       case measure => simp [lenOf]; omega
      ·exact byte_val (by omega) (by omega) (by omega)
      ·omega
      ·omega
      ·have := hbx.size; simp; omega
     ·go_wp2_with (at_builtin; refine app_own (w0 := w) rfl _ _ _ rfl _ _ eltB _ _ _ _ rfl (hox.alloc _) _ _ _ ([UInt8.ofNat (n * 8 / 1099511627776)].map bv) rfl rfl (Bs.oneE wr _ ?_).2 (by intro u hu; exact bv_one u hu) ?_ ?_ (hbx.alloc hbx.size _) ?_ ?_; rotate_right; intro A2 c2 w2 hown2 hbw2 hg2 hl2)
      ·go_roundw
       case rel => exact ⟨3, A2, c2, rfl, by omega, rfl, hbw2, (Own.app (ys := [UInt8.ofNat (n * 8 / 1099511627776)]) hown2).congr rfl (by rw [List.append_assoc]; rfl)⟩
       case measure => simp [lenOf]; omega
      ·exact byte_val (by omega) (by omega) (by omega)
      ·omega
      ·omega
      ·have := hbx.size; simp; omega
     ·go_wp2_with (at_builtin; refine app_own (w0 := w) rfl _ _ _ rfl _ _ eltB _ _ _ _ rfl (hox.alloc _) _ _ _ ([UInt8.ofNat (n * 8 / 4294967296)].map bv) rfl rfl (Bs.oneE wr _ ?_).2 (by intro u hu; exact bv_one u hu) ?_ ?_ (hbx.alloc hbx.size _) ?_ ?_; rotate_right; intro A2 c2 w2 hown2 hbw2 hg2 hl2)
      ·go_roundw
       case rel => exact ⟨4, A2, c2, rfl, by omega, rfl, hbw2, (Own.app (ys := [UInt8.ofNat (n * 8 / 4294967296)]) hown2).congr rfl (by rw [List.append_assoc]; rfl)⟩
       case measure => simp [lenOf]; omega
      ·exact byte_val (by omega) (by omega) (by omega)
      ·omega
      ·omega
      ·have := hbx.size; simp; omega
     ·go_wp2_with (at_builtin; refine app_own (w0 := w) rfl _ _ _ rfl _ _ eltB _ _ _ _ rfl (hox.alloc _) _ _ _ ([UInt8.ofNat (n * 8 / 16777216)].map bv) rfl rfl (Bs.oneE wr _ ?_).2 (by intro u hu; exact bv_one u hu) ?_ ?_ (hbx.alloc hbx.size _) ?_ ?_; rotate_right; intro A2 c2 w2 hown2 hbw2 hg2 hl2)
      ·go_roundw
       case rel => exact ⟨5, A2, c2, rfl, by omega, rfl, hbw2, (Own.app (ys := [UInt8.ofNat (n * 8 / 16777216)]) hown2).congr rfl (by rw [List.append_assoc]; rfl)⟩
       case measure => simp [lenOf]; omega
      ·exact byte_val (by omega) (by omega) (by omega)
      ·omega
      ·omega
      ·have := hbx.size; simp; omega
     ·go_wp2_with (at_builtin; refine app_own (w0 := w) rfl _ _ _ rfl _ _ eltB _ _ _ _ rfl (hox.alloc _) _ _ _ ([UInt8.ofNat (n * 8 / 65536)].map bv) rfl rfl (Bs.oneE wr _ ?_).2 (by intro u hu; exact bv_one u hu) ?_ ?_ (hbx.alloc hbx.size _) ?_ ?_; rotate_right; intro A2 c2 w2 hown2 hbw2 hg2 hl2)
      ·go_roundw
       case rel => exact ⟨6, A2, c2, rfl, by omega, rfl, hbw2, (Own.app (ys := [UInt8.ofNat (n * 8 / 65536)]) hown2).congr rfl (by rw [List.append_assoc]; rfl)⟩
       case measure => simp [lenOf]; omega
      ·exact byte_val (by omega) (by omega) (by omega)
      ·omega
      ·omega
      ·have := hbx.size; simp; omega
     ·go_wp2_with (at_builtin; refine app_own (w0 := w) rfl _ _ _ rfl _ _ eltB _ _ _ _ rfl (hox.alloc _) _ _ _ ([UInt8.ofNat (n * 8 / 256)].map bv) rfl rfl (Bs.oneE wr _ ?_).2 (by intro u hu; exact bv_one u hu) ?_ ?_ (hbx.alloc hbx.size _) ?_ ?_; rotate_right; intro A2 c2 w2 hown2 hbw2 hg2 hl2)
      ·go_roundw
       case rel => exact ⟨7, A2, c2, rfl, by omega, rfl, hbw2, (Own.app (ys := [UInt8.ofNat (n * 8 / 256)]) hown2).congr rfl (by rw [List.append_assoc]; rfl)⟩
       case measure => simp [lenOf]; omega
      ·exact byte_val (by omega) (by omega) (by omega)
      ·omega
      ·omega
      ·have := hbx.size; simp; omega
     ·go_wp2_with (at_builtin; refine app_own (w0 := w) rfl _ _ _ rfl _ _ eltB _ _ _ _ rfl (hox.alloc _) _ _ _ ([UInt8.ofNat (n * 8)].map bv) rfl rfl (Bs.oneE wr _ ?_).2 (by intro u hu; exact bv_one u hu) ?_ ?_ (hbx.alloc hbx.size _) ?_ ?_; rotate_right; intro A2 c2 w2 hown2 hbw2 hg2 hl2)
      ·go_roundw
       case rel => exact ⟨8, A2, c2, rfl, by omega, rfl, hbw2, (Own.app (ys := [UInt8.ofNat (n * 8)]) hown2).congr rfl (by rw [List.append_assoc]; rfl)⟩
       case measure => simp [lenOf]; omega
      ·exact byte_val (by omega) (by omega) (by omega)
      ·omega
      ·omega
      ·have := hbx.size; simp; omega
    ·obtain rfl : j = 8 := by omega
     go_wp2
     go_ret
     refine ⟨A1, c1, ?_, hox.congr (by have := HK.out; omega) (by rw [HK.out]; rfl), hbx⟩
     show Ending.returned (.slice A1 (1 + k + 8) c1) = _
     rw [show 1 + k + 8 = 9 + Sha.zeros n from by have := HK.out; omega]
end Go.Proofs.YtjllhimhiekchaaGreat
