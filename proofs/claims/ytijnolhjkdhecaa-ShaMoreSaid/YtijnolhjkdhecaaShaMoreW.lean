/- The walk of the law ShaMore: it answers true whatever two byte slices it is given. Lengths within an int. -/
import Derived.Test.YtijnolhjkdhecaaAlive2
namespace Go.Proofs.Ytijnolhjkdhecaa
open Go.RowKit
theorem same_eq (A B : Option Addr) (n m c d : Nat) (xs ys : List UInt8) (w : World) (ha : Bs w A n xs) (hb : Bs w B m ys) (hn : n ≤ 140737488355328) (hm : m ≤ 140737488355328) (h : xs = ys) :
    Calls Try.prog 16 #[.slice A n c, .slice B m d] w fun e w' => e = .returned (.bool true) ∧ ∃ k, w' = w.drewN k :=
  (same_any A B n m c d xs ys w ha hb hn hm).mono fun e w' ⟨he, hw⟩ => ⟨by rw [he, decide_eq_true h], hw⟩
theorem bss_lit2 {w : World} {t : TypeId} {A B : Option Addr} {n m c d : Nat} {xs ys : List UInt8} (ha : Bs w A n xs) (hb : Bs w B m ys) :
    Bss (w.alloc (.cells #[.slice A n c, .slice B m d] t)) (some ⟨w.heap.size, 0, none⟩) 2 [xs, ys] := by
  refine ⟨rfl, [.slice A n c, .slice B m d], rfl, lit_at _ _ rfl, fun i hi => ?_⟩
  have hb' : Below w.heap.size w (w.alloc (.cells #[.slice A n c, .slice B m d] t)) := (Below.refl _ _).alloc (Nat.le_refl _) _
  match i, hi with
  | 0, _ => exact ⟨A, n, c, rfl, ha.below hb'⟩
  | 1, _ => exact ⟨B, m, d, rfl, hb.below hb'⟩
theorem bss_lit2d {w : World} {t : TypeId} {A B : Option Addr} {n m c d : Nat} {xs ys : List UInt8} (ha : Bs w A n xs) (hb : Bs w B m ys) :
    Bss (w.alloc (.cells #[.slice A n c, .slice B m d] t)).drew (some ⟨w.heap.size, 0, none⟩) 2 [xs, ys] := bss_lit2 (w := w.drew) ha hb
theorem flat2 (xs ys : List UInt8) : [xs, ys].flatten = xs ++ ys := by simp
theorem bs_blk {w : World} {g n : Nat} {t : TypeId} {xs : List UInt8} (h : Blk w g t (bys xs)) (hn : xs.length = n) : Bs w (some ⟨g, 0, none⟩) n xs :=
  ⟨hn, h.at 0 _ (fun j u hu => by rw [Nat.zero_add]; simpa [bys] using hu)⟩

set_option maxRecDepth 100000 in
set_option maxHeartbeats 2000000 in
theorem more_main (A B : Option Addr) (n m c d : Nat) (xs ys : List UInt8) (w : World) (ha : Bs w A n xs) (hb : Bs w B m ys) (hn : n ≤ 3000) (hm : m ≤ 3000) :
    Calls Try.prog 4 #[.slice A n c, .slice B m d] w fun e w' => e = .returned (.bool true) ∧ Below w.heap.size w w' := by
  have HA := Lib.hid ha; have HB := Lib.hid hb
  clear ha hb
  have hni : ¬ (3000 : Int) < (n : Int) := by omega
  have hmi : ¬ (3000 : Int) < (m : Int) := by omega
  obtain ⟨S, hS⟩ : ∃ S, Hid (S = Sha.sum xs) := ⟨_, rfl⟩
  obtain ⟨T, hT⟩ : ∃ T, Hid (T = Sha.sum (xs ++ ys)) := ⟨_, rfl⟩
  have hSl : Hid (S.length = 32) := by rw [hS.out]; exact Sha.sum_length _
  have hTl : Hid (T.length = 32) := by rw [hT.out]; exact Sha.sum_length _
  go_enter Try.func4, Try.ntmps4
  go_wp2_with (first
    | (go_at_call 14; refine (alive2_any _).mono ?_; rintro e w1 ⟨rfl, hb1⟩
       have HB1 := Lib.hid hb1
       clear hb1)
    | (at_builtin; refine app_own (w0 := w1) rfl (.tmp 17) (.tmp 18) _ rfl _ _ eltB w1.heap.size _ 0 [] rfl (Own.made w1 w1.heap.size 0 #[] (Nat.le_refl _) (by unfold maxLen; omega) rfl) A n c (xs.map bv) rfl (by rw [List.length_map]; exact HA.out.1) ((HA.out.below HB1.out).below ((Below.refl _ _).alloc (Nat.le_refl _) _)).2 (by intro u hu; exact bv_one u hu) (by omega) (by omega) ((Below.refl _ _).alloc (Nat.le_refl _) _) (by simp) ?_
       intro A2 c2 w2 hown2 hbw2 _ _
       have ho2 : Own w2 w1.heap.size A2 n c2 xs := by rw [Nat.zero_add] at hown2; exact hown2
       have HO2 := Lib.hid ho2
       have HB2 : Hid (Below w1.heap.size w1 w2) := hbw2
       have hs2 := hbw2.size
       clear hown2 ho2 hbw2)
    | (at_builtin; refine app_own (w0 := w1) rfl (.tmp 19) (.tmp 20) _ rfl _ _ eltB w1.heap.size _ _ _ rfl HO2.out B m d (ys.map bv) rfl (by rw [List.length_map]; exact HB.out.1) ((HB.out.below HB1.out).below HB2.out).2 (by intro u hu; exact bv_one u hu) (by omega) (by omega) HB2.out hs2 ?_
       intro A3 c3 w3 hown3 hbw3 _ _
       have HO3 : Hid (Own w3 w1.heap.size A3 (n + m) c3 (xs ++ ys)) := Own.app hown3
       have HB3 : Hid (Below w.heap.size w w3) := HB1.out.trans (hbw3.mono HB1.out.size)
       clear hown3 hbw3 HO2 HB2)
    | (go_at_call 18; refine (digest_any A3 (n + m) c3 (xs ++ ys) _ HO3.out.bs (by omega)).mono ?_; rintro e w4 ⟨A4, c4, rfl, ho4, hb4⟩
       have HO4 : Hid (Bs w4 A4 32 T) := by rw [hT.out]; exact ho4.bs
       have HB4 : Hid (Below w.heap.size w w4) := HB3.out.trans (hb4.mono HB3.out.size)
       clear ho4 hb4 HO3 HB3)
    | (go_at_call 15; refine (sum_any A n c xs _ (HA.out.below HB4.out) (by omega)).mono ?_; rw [← hS.out]; rintro e w5 ⟨rfl, hb5⟩
       have HB5 : Hid (Below w.heap.size w w5) := HB4.out.trans (hb5.mono HB4.out.size)
       have HO5 : Hid (Bs w5 A4 32 T) := HO4.out.below hb5
       clear hb5 HO4 HB4)
    | refine arr_alloc rfl _ rfl _ zb32 w5.heap.size rfl ?_
    | (refine arr_store rfl _ (.tmp 6) (.tmp 24) rfl w5.heap.size (bys S) rfl rfl _ _ (Blk.new w5 _ _) 32 sb32 (by rw [bys_size]; exact hSl.out) rfl (bys_one _) ?_
       have hk : Hid (Blk ((w5.alloc (.cells (bys (zbs 32)) 24)).setRow w5.heap.size (bys S)) w5.heap.size 24 (bys S)) := (Blk.new w5 _ _).row _
       have hz : Hid (Below w5.heap.size w5 ((w5.alloc (.cells (bys (zbs 32)) 24)).setRow w5.heap.size (bys S))) := bel_row ((Below.refl _ _).alloc (Nat.le_refl _) _) (Nat.le_refl _) _
       generalize (w5.alloc (.cells (bys (zbs 32)) 24)).setRow w5.heap.size (bys S) = w6 at *
       have HO6 : Hid (Bs w6 A4 32 T) := HO5.out.below hz.out
       have HB6 : Hid (Below w.heap.size w w6) := HB5.out.trans (hz.out.mono HB5.out.size)
       clear hz HO5 HB5)
    | fail)
  have K6 : w6.cell? ⟨w5.heap.size, 0, none⟩ = some (.int .u8 ((S.getD 0 0).toNat : Int)) := by rw [hk.out.cell]; exact bys_get (by rw [hSl.out]; omega)
  go_region_held3 (fun w' => w'.cell? ⟨w5.heap.size, 0, none⟩ = some (.int .u8 ((S.getD 0 0).toNat : Int)))
    (first | go_keep | exact k7c | exact k9c)
    ((first
      | (go_at_call 19; refine (of_any _ 2 2 [xs, ys] _ (bss_lit2d (HA.out.below HB6.out) (HB.out.below HB6.out)) (by omega) (by rw [flat2, List.length_append, HA.out.1, HB.out.1]; omega)).mono ?_; rintro e w7 ⟨g7, rfl, hg7, hk7, hb7⟩
         have B7 : Hid (Below w6.heap.size w6 w7) := (((Below.refl _ _).alloc (Nat.le_refl _) _).drew).trans (hb7.mono (by simp))
         have K7 : Hid (Bs w7 (some ⟨g7, 0, none⟩) 32 T) := by rw [flat2, ← hT.out] at hk7; exact bs_blk hk7 hTl.out
         have W7 : Hid (Bs w7 A4 32 T) := HO6.out.below B7.out
         have k7 : Hid (Blk w7 w5.heap.size 24 (bys S)) := hk.out.kept B7.out
         have C7 : Hid (Below w.heap.size w w7) := HB6.out.trans (B7.out.mono HB6.out.size)
         have k7c : w7.cell? ⟨w5.heap.size, 0, none⟩ = some (.int .u8 ((S.getD 0 0).toNat : Int)) := by rw [k7.out.cell]; exact bys_get (by rw [hSl.out]; omega)
         clear hg7 hk7 hb7)
      | (go_at_call 16; (with_reducible refine (same_eq _ _ 32 32 _ _ _ _ _ K7.out W7.out (by omega) (by omega) rfl).mono ?_); rintro e w8 ⟨rfl, n8, rfl⟩)
      | (go_at_call 18; refine (digest_any A n c xs _ (HA.out.below (bel_drewN C7.out _)) (by omega)).mono ?_; rintro e w9 ⟨A9, c9, rfl, ho9, hb9⟩
         have D9 : Hid (Bs w9 A9 32 S) := by rw [hS.out]; exact ho9.bs
         have k9b : Hid (Blk w9 w5.heap.size 24 (bys S)) := Blk.kept (w := w7.drewN n8) k7.out hb9
         have k9c : w9.cell? ⟨w5.heap.size, 0, none⟩ = some (.int .u8 ((S.getD 0 0).toNat : Int)) := by rw [k9b.out.cell]; exact bys_get (by rw [hSl.out]; omega)
         have k9 : Hid (Bs w9 (some ⟨w5.heap.size, 0, none⟩) 32 S) := bs_blk (Blk.kept (w := w7.drewN n8) k7.out hb9) hSl.out
         have C9 : Hid (Below w.heap.size w w9) := (bel_drewN C7.out n8).trans (hb9.mono C7.out.size)
         clear ho9 hb9)
      | (go_at_call 16; (with_reducible refine (same_eq _ _ 32 32 _ _ _ _ _ k9.out D9.out (by omega) (by omega) rfl).mono ?_); rintro e w10 ⟨rfl, n10, rfl⟩)))
  go_wp2
  go_ret
  exact ⟨rfl, bel_drewN C9.out n10⟩
set_option maxHeartbeats 1000000 in
theorem more_wide (A B : Option Addr) (n m c d : Nat) (w : World) (hn : n ≤ maxLen) (hm : m ≤ maxLen) (h : 3000 < n ∨ 3000 < m) :
    Calls Try.prog 4 #[.slice A n c, .slice B m d] w fun e w' => e = .returned (.bool true) ∧ Below w.heap.size w w' := by
  unfold maxLen at hn hm
  by_cases h1 : 3000 < n
  · have hni : (3000 : Int) < (n : Int) := by omega
    go_enter Try.func4, Try.ntmps4
    go_wp2_with (go_at_call 14; refine (alive2_any _).mono ?_; rintro e w1 ⟨rfl, hb1⟩)
    go_ret
    exact ⟨rfl, hb1⟩
  · have hni : ¬ (3000 : Int) < (n : Int) := by omega
    have hmi : (3000 : Int) < (m : Int) := by omega
    go_enter Try.func4, Try.ntmps4
    go_wp2_with (go_at_call 14; refine (alive2_any _).mono ?_; rintro e w1 ⟨rfl, hb1⟩)
    go_ret
    exact ⟨rfl, hb1⟩
end Go.Proofs.Ytijnolhjkdhecaa
