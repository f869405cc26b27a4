/- What the words of a block are: the code's list of 64 numbers. No conditions but that the block has 64 bytes. -/
import Derived.Test.YtjllhimhiekchaaGreatRow
import Derived.Test.YtjllhimhiekchaaGreatSl
/- Slices of numbers: read, and owned by the call. No conditions. -/
namespace Go.Proofs.YtjllhimhiekchaaGreat
open Go.RowKit
def Ns (k : IntKind) (w : World) (A : Option Addr) (n : Nat) (xs : List Nat) : Prop := xs.length = n ∧ At w A (xs.map (iv k))
section
variable {k : IntKind} {w w' : World} {A : Option Addr} {n : Nat} {xs : List Nat}
theorem Ns.get (h : Ns k w A n xs) {i : Nat} (hi : i < n) : ∃ b off x, A = some ⟨b, off, none⟩ ∧ Hid (x = xs.getD i 0) ∧ b < w.heap.size ∧ w.cell? ⟨b, off + i, none⟩ = some (.int k (x : Int)) := by
 have hl : i < xs.length := by rw [h.1]; exact hi
 obtain ⟨b, off, e, hb, hc⟩ := h.2.get (k := i) (by simpa using hl)
 exact ⟨b, off, _, e, rfl, hb, by simpa [iv, hl] using hc⟩
theorem Ns.below (h : Ns k w A n xs) (hb : Below w.heap.size w w') : Ns k w' A n xs := ⟨h.1, h.2.below hb⟩
end
section
variable {w w' : World} {base n c : Nat} {A : Option Addr} {xs ys : List Nat}
end
end Go.Proofs.YtjllhimhiekchaaGreat

/- What the digest's small functions compute: the turn, the constants, the tail. No conditions. -/
namespace Go.Proofs.YtjllhimhiekchaaGreat
open Go.RowKit
theorem rl7 : bits .and .u64 (IntKind.u64.wrap (-7)) 31 = 25 := by decide +kernel
theorem rl18 : bits .and .u64 (IntKind.u64.wrap (-18)) 31 = 14 := by decide +kernel
theorem rl17 : bits .and .u64 (IntKind.u64.wrap (-17)) 31 = 15 := by decide +kernel
theorem rl19 : bits .and .u64 (IntKind.u64.wrap (-19)) 31 = 13 := by decide +kernel
theorem rl6 : bits .and .u64 (IntKind.u64.wrap (-6)) 31 = 26 := by decide +kernel
theorem rl11 : bits .and .u64 (IntKind.u64.wrap (-11)) 31 = 21 := by decide +kernel
theorem rl25 : bits .and .u64 (IntKind.u64.wrap (-25)) 31 = 7 := by decide +kernel
theorem rl2 : bits .and .u64 (IntKind.u64.wrap (-2)) 31 = 30 := by decide +kernel
theorem rl13 : bits .and .u64 (IntKind.u64.wrap (-13)) 31 = 19 := by decide +kernel
theorem rl22 : bits .and .u64 (IntKind.u64.wrap (-22)) 31 = 10 := by decide +kernel
theorem rot_fin (x n : Nat) (hx : x < 4294967296) (hn : n ≤ 32) (p q : Int) (hp : p = ((x * 2 ^ (32 - n) % 4294967296 : Nat) : Int)) (hq : q = ((x / 2 ^ n : Nat) : Int)) :
  Ending.returned (.int .u32 (bits .or .u32 p q)) = .returned (.int .u32 (Sha.rotr x n : Nat)) := by
 subst hp; subst hq
 rw [u32_or_nat _ _ (Nat.mod_lt _ (by omega)) (Nat.lt_of_le_of_lt (Nat.div_le_self _ _) hx), Sha.rotr_or hx hn]
set_option maxHeartbeats 1000000 in
theorem right_any (x : Nat) (n : Int) (w : World) (hx : x < 4294967296) (hn : n = 7 ∨ n = 18 ∨ n = 17 ∨ n = 19 ∨ n = 6 ∨ n = 11 ∨ n = 25 ∨ n = 2 ∨ n = 13 ∨ n = 22) :
  Calls Tryz.prog 269 #[.int .u32 x, .int .i64 n] w fun e w' => e = .returned (.int .u32 (Sha.rotr x n.toNat : Nat)) ∧ w = w' := by
 have h7 := rl7; have h18 := rl18; have h17 := rl17; have h19 := rl19; have h6 := rl6
 have h11 := rl11; have h25 := rl25; have h2 := rl2; have h13 := rl13; have h22 := rl22
 rcases hn with rfl | rfl | rfl | rfl | rfl | rfl | rfl | rfl | rfl | rfl
 all_goals
  go_enter Tryz.func269, Tryz.ntmps269
  go_wp2
  go_ret
  exact ⟨rot_fin x _ hx (by decide) _ _ (by simp) (by simp), rfl⟩
theorem z64 : (Tryz.prog.info? 307).map (fun i => i.zero.map (·.cells)) = some (some (nums .u32 (zrs 64))) := by kernel_rfl
theorem z8 : (Tryz.prog.info? 290).map (fun i => i.zero.map (·.cells)) = some (some (nums .u32 (zrs 8))) := by kernel_rfl
theorem s64 : (Tryz.prog.info? 307).map (·.size) = some 64 := by kernel_rfl
theorem s8 : (Tryz.prog.info? 290).map (·.size) = some 8 := by kernel_rfl
set_option maxRecDepth 100000 in
set_option maxHeartbeats 400000 in
theorem const_any (w : World) : Calls Tryz.prog 268 #[] w fun e w' => e = .returned (.agg (nums .u32 Sha.K)) ∧ Below w.heap.size w w' := by
 go_enter Tryz.func268, Tryz.ntmps268
 go_wp2_with (first | refine arr_alloc rfl _ rfl _ z64 w.heap.size rfl ?_ | refine arr_build rfl _ _ rfl (nums .u32 Sha.K) (by kernel_rfl) ?_ | refine arr_store rfl _ _ _ rfl w.heap.size (nums .u32 Sha.K) rfl rfl _ _ (Blk.new w _ _) 64 s64 rfl rfl (nums_one _ _) ?_)
 exact arr_ret rfl w.heap.size _ _ _ rfl ((Blk.new w _ _).row _) Tryz.underlying307 rfl 64 s64 rfl rfl ⟨rfl, bel_row ((Below.refl _ _).alloc (Nat.le_refl _) _) (Nat.le_refl _) _⟩
set_option maxHeartbeats 400000 in
theorem begin_any (w : World) : Calls Tryz.prog 254 #[] w fun e w' => e = .returned (.agg (nums .u32 Sha.H0)) ∧ Below w.heap.size w w' := by
 go_enter Tryz.func254, Tryz.ntmps254
 go_wp2_with (first | refine arr_alloc rfl _ rfl _ z8 w.heap.size rfl ?_ | refine arr_build rfl _ _ rfl (nums .u32 Sha.H0) (by kernel_rfl) ?_ | refine arr_store rfl _ _ _ rfl w.heap.size (nums .u32 Sha.H0) rfl rfl _ _ (Blk.new w _ _) 8 s8 rfl rfl (nums_one _ _) ?_)
 exact arr_ret rfl w.heap.size _ _ _ rfl ((Blk.new w _ _).row _) Tryz.underlying290 rfl 8 s8 rfl rfl ⟨rfl, bel_row ((Below.refl _ _).alloc (Nat.le_refl _) _) (Nat.le_refl _) _⟩
end Go.Proofs.YtjllhimhiekchaaGreat

namespace Go.Proofs.YtjllhimhiekchaaGreat
open Go.RowKit
theorem be_or (a b c d : UInt8) : bits .or .u32 (bits .or .u32 (bits .or .u32 ((a.toNat : Int) % 4294967296 * 16777216 % 4294967296) ((b.toNat : Int) % 4294967296 * 65536 % 4294967296)) ((c.toNat : Int) % 4294967296 * 256 % 4294967296)) ((d.toNat : Int) % 4294967296) =
  ((a.toNat * 16777216 + b.toNat * 65536 + c.toNat * 256 + d.toNat : Nat) : Int) := by
 have ha := a.toNat_lt; have hb := b.toNat_lt; have hc := c.toNat_lt; have hd := d.toNat_lt
 generalize a.toNat = a at *; generalize b.toNat = b at *; generalize c.toNat = c at *; generalize d.toNat = d at *
 have e1 : (a : Int) % 4294967296 * 16777216 % 4294967296 = ((a * 16777216 : Nat) : Int) := by omega
 have e2 : (b : Int) % 4294967296 * 65536 % 4294967296 = ((b * 65536 : Nat) : Int) := by omega
 have e3 : (c : Int) % 4294967296 * 256 % 4294967296 = ((c * 256 : Nat) : Int) := by omega
 have e4 : (d : Int) % 4294967296 = (d : Int) := by omega
 rw [e1, e2, e3, e4, u32_or_nat _ _ (by omega) (by omega), nat_join 24 _ _ (by omega) (by omega), u32_or_nat _ _ (by omega) (by omega), nat_join 16 _ _ (by omega) (by omega), u32_or_nat _ _ (by omega) (by omega), nat_join 8 _ _ (by omega) (by omega)]
theorem xor3 (a b c : Nat) (ha : a < 4294967296) (hb : b < 4294967296) (hc : c < 4294967296) : bits .xor .u32 (bits .xor .u32 (a : Int) (b : Int)) (c : Int) = (((a ^^^ b) ^^^ c : Nat) : Int) := by
 rw [u32_xor_nat _ _ ha hb, u32_xor_nat _ _ (Sha.xor_lt ha hb) hc]
set_option maxRecDepth 100000 in
set_option maxHeartbeats 1000000 in
theorem words_any (A : Option Addr) (c : Nat) (xs : List UInt8) (w : World) (ha : Bs w A 64 xs) :
   Calls Tryz.prog 267 #[.slice A 64 c] w fun e w' => e = .returned (.agg (nums .u32 (Sha.words xs))) ∧ Below w.heap.size w w' := by
  go_enter Tryz.func267, Tryz.ntmps267
  go_wp2_with (first | refine arr_alloc rfl _ rfl _ z64 w.heap.size rfl ?_ | refine arr_alloc rfl _ rfl _ z64 (w.heap.size + 1) (by simp) ?_)
  go_loopw [4, 10] (fun _ i wr => ∃ k : Nat, k ≤ 16 ∧ i = .int .i64 k ∧ Below w.heap.size w wr ∧ Blk wr w.heap.size 307 (nums .u32 (zrs 64)) ∧ Blk wr (w.heap.size + 1) 307 (nums .u32 (Sha.w16 xs k ++ zrs (64 - k)))) (fun _ i _ => 16 - (intOf i).toNat)
  case atStart => exact ⟨0, by omega, rfl, ((Below.refl _ _).alloc (Nat.le_refl _) _).alloc (by simp) _, (Blk.new w _ _).alloc _, by have := Blk.new (w.alloc (.cells (nums .u32 (zrs 64)) 307)) 307 (nums .u32 (zrs 64)); rw [World.size_alloc] at this; exact this⟩
  case round =>
    obtain ⟨k, hk, rfl, hbw, hb1, hb2⟩ := hrel
    have HB1 := Lib.hid hb1
    have HB2 := Lib.hid hb2
    have HW := Lib.hid hbw
    clear hb1 hb2 hbw
    by_cases hlt : k < 16
    · have ha' := ha.below HW.out
      obtain ⟨b, off, x0, rfl, hx0, hc0⟩ := ha'.byte (k := 4 * k) (by omega)
      obtain ⟨x1, hx1, hc1⟩ := ha'.byteAt (k := 4 * k + 1) (by omega)
      obtain ⟨x2, hx2, hc2⟩ := ha'.byteAt (k := 4 * k + 2) (by omega)
      obtain ⟨x3, hx3, hc3⟩ := ha'.byteAt (k := 4 * k + 3) (by omega)
      clear ha'
      have hcc : wr.cell? ⟨w.heap.size + 1, k, none⟩ = some (.int .u32 0) := by
        rw [HB2.out.cell]; exact fill_zero _ _ _ _ (by rw [Sha.w16_length]) (by omega)
      have hff := HB2.out.frozen k
      have hw0 : IntKind.i64.wrap (4 * (k : Int)) = 4 * (k : Int) := IntWalk.i64_in _ (by omega)
      have hp0 : 0 ≤ 4 * (k : Int) := by omega
      have hq0 : 4 * (k : Int) < 64 := by omega
      have hr0 : (4 * (k : Int)).toNat = 4 * k := by omega
      have hw1 : IntKind.i64.wrap (4 * (k : Int) + 1) = 4 * (k : Int) + 1 := IntWalk.i64_in _ (by omega)
      have hp1 : 0 ≤ 4 * (k : Int) + 1 := by omega
      have hq1 : 4 * (k : Int) + 1 < 64 := by omega
      have hr1 : (4 * (k : Int) + 1).toNat = 4 * k + 1 := by omega
      have hw2 : IntKind.i64.wrap (4 * (k : Int) + 2) = 4 * (k : Int) + 2 := IntWalk.i64_in _ (by omega)
      have hp2 : 0 ≤ 4 * (k : Int) + 2 := by omega
      have hq2 : 4 * (k : Int) + 2 < 64 := by omega
      have hr2 : (4 * (k : Int) + 2).toNat = 4 * k + 2 := by omega
      have hw3 : IntKind.i64.wrap (4 * (k : Int) + 3) = 4 * (k : Int) + 3 := IntWalk.i64_in _ (by omega)
      have hp3 : 0 ≤ 4 * (k : Int) + 3 := by omega
      have hq3 : 4 * (k : Int) + 3 < 64 := by omega
      have hr3 : (4 * (k : Int) + 3).toNat = 4 * k + 3 := by omega
      have hq4 : (k : Int) < 64 := by omega
      go_wp2_with fail
      go_still_tail 35, (by kernel_rfl)
      change wpList _ _ _ _ _ wr.drew
      go_wp2
      go_roundw
      case rel =>
        rw [be_or]
        refine ⟨k + 1, by omega, by go_num, (HW.out.drew).setCell (by simp) _, HB1.out.far (by simp) _, ?_⟩
        have h := HB2.out.set k (.int .u32 ((x0.toNat * 16777216 + x1.toNat * 65536 + x2.toNat * 256 + x3.toNat : Nat) : Int))
        rw [fill_set _ _ _ (64 - (k + 1)) _ _ (by rw [Sha.w16_length]) (by omega)] at h
        rw [hx0.out, hx1.out, hx2.out, hx3.out] at h
        rw [hx0.out, hx1.out, hx2.out, hx3.out]
        exact h
      case measure => simp [intOf]; omega
    · have hb16 : Blk wr (w.heap.size + 1) 307 (nums .u32 (Sha.w16 xs 16 ++ zrs 48)) := by
        have h := HB2.out
        rw [show k = 16 from by omega] at h
        exact h
      have HB16 := Lib.hid hb16
      clear hb16 HB2
      go_wp2
      obtain ⟨wo, rfl⟩ : ∃ wo : World, wo = wr := ⟨_, rfl⟩
      go_loopw [5, 6, 7, 8, 9] (fun i _ _ _ _ wx => ∃ t : Nat, 16 ≤ t ∧ t ≤ 64 ∧ i = .int .i64 t ∧ Below w.heap.size w wx ∧ Blk wx w.heap.size 307 (nums .u32 (zrs 64)) ∧ Blk wx (w.heap.size + 1) 307 (nums .u32 (Sha.ext (Sha.w16 xs 16) (t - 16) ++ zrs (64 - t)))) (fun i _ _ _ _ _ => 64 - (intOf i).toNat)
      case atStart => exact ⟨16, by omega, by omega, rfl, HW.out, HB1.out, HB16.out⟩
      case round =>
        obtain ⟨t, ht1, ht2, rfl, hbx, hd1, hd2⟩ := hrel
        have HD1 := Lib.hid hd1
        have HD2 := Lib.hid hd2
        have HX := Lib.hid hbx
        clear hd1 hd2 hbx HB1 HB16 HW
        by_cases hlt : t < 64
        · have hlen : (Sha.ext (Sha.w16 xs 16) (t - 16)).length = t := by rw [Sha.ext_length, Sha.w16_length]; omega
          have hltA := Sha.ext_lt (Sha.w16 xs 16) (Sha.w16_lt xs 16) (t - 16)
          obtain ⟨q1, hv1⟩ : ∃ q, Hid (q = (Sha.ext (Sha.w16 xs 16) (t - 16)).getD (t - 15) 0) := ⟨_, rfl⟩
          obtain ⟨q2, hv2⟩ : ∃ q, Hid (q = (Sha.ext (Sha.w16 xs 16) (t - 16)).getD (t - 2) 0) := ⟨_, rfl⟩
          obtain ⟨q3, hv3⟩ : ∃ q, Hid (q = (Sha.ext (Sha.w16 xs 16) (t - 16)).getD (t - 7) 0) := ⟨_, rfl⟩
          obtain ⟨q4, hv4⟩ : ∃ q, Hid (q = (Sha.ext (Sha.w16 xs 16) (t - 16)).getD (t - 16) 0) := ⟨_, rfl⟩
          have l1 : q1 < 4294967296 := by rw [hv1.out]; exact Sha.getD_lt hltA _
          have l2 : q2 < 4294967296 := by rw [hv2.out]; exact Sha.getD_lt hltA _
          have l3 : q3 < 4294967296 := by rw [hv3.out]; exact Sha.getD_lt hltA _
          have l4 : q4 < 4294967296 := by rw [hv4.out]; exact Sha.getD_lt hltA _
          have c1 : wr.cell? ⟨w.heap.size + 1, t - 15, none⟩ = some (.int .u32 q1) := by rw [HD2.out.cell, hv1.out]; exact fill_get _ _ _ _ (by rw [hlen]; omega)
          have c2 : wr.cell? ⟨w.heap.size + 1, t - 2, none⟩ = some (.int .u32 q2) := by rw [HD2.out.cell, hv2.out]; exact fill_get _ _ _ _ (by rw [hlen]; omega)
          have HL := Lib.hid hlen
          clear hlen hltA
          have hw1 : IntKind.i64.wrap ((t : Int) - 15) = (t : Int) - 15 := i64_ok (by omega) (by omega); have hp1 : (15 : Int) ≤ (t : Int) := (by omega); have hp1' : 0 ≤ (t : Int) - 15 := (by omega); have hq1 : (t : Int) - 15 < 64 := (by omega); have hr1 : ((t : Int) - 15).toNat = t - 15 := (by omega)
          have hw2 : IntKind.i64.wrap ((t : Int) - 2) = (t : Int) - 2 := i64_ok (by omega) (by omega); have hp2 : (2 : Int) ≤ (t : Int) := (by omega); have hp2' : 0 ≤ (t : Int) - 2 := (by omega); have hq2 : (t : Int) - 2 < 64 := (by omega); have hr2 : ((t : Int) - 2).toNat = t - 2 := (by omega)
          have hw3 : IntKind.i64.wrap ((t : Int) - 7) = (t : Int) - 7 := i64_ok (by omega) (by omega); have hp3 : (7 : Int) ≤ (t : Int) := (by omega); have hp3' : 0 ≤ (t : Int) - 7 := (by omega); have hq3 : (t : Int) - 7 < 64 := (by omega); have hr3 : ((t : Int) - 7).toNat = t - 7 := (by omega)
          have hw4 : IntKind.i64.wrap ((t : Int) - 16) = (t : Int) - 16 := i64_ok (by omega) (by omega); have hp4 : (16 : Int) ≤ (t : Int) := (by omega); have hp4' : 0 ≤ (t : Int) - 16 := (by omega); have hq4 : (t : Int) - 16 < 64 := (by omega); have hr4 : ((t : Int) - 16).toNat = t - 16 := (by omega)
          have hq5 : (t : Int) < 64 := by omega
          go_wp2_with fail
          go_quiet (fail)
          clear c1 c2
          have HD1' : Hid (Blk (wr.drewN nq) w.heap.size 307 (nums .u32 (zrs 64))) := HD1.out
          have HD2' : Hid (Blk (wr.drewN nq) (w.heap.size + 1) 307 (nums .u32 (Sha.ext (Sha.w16 xs 16) (t - 16) ++ zrs (64 - t)))) := HD2.out
          have HX' : Hid (Below w.heap.size w (wr.drewN nq)) := bel_drewN HX.out nq
          generalize wr.drewN nq = wy at *
          clear HD1 HD2 HX
          have c3 : wy.cell? ⟨w.heap.size + 1, t - 7, none⟩ = some (.int .u32 q3) := by rw [HD2'.out.cell, hv3.out]; exact fill_get _ _ _ _ (by rw [HL.out]; omega)
          have c4 : wy.cell? ⟨w.heap.size + 1, t - 16, none⟩ = some (.int .u32 q4) := by rw [HD2'.out.cell, hv4.out]; exact fill_get _ _ _ _ (by rw [HL.out]; omega)
          have c5 : wy.cell? ⟨w.heap.size + 1, t, none⟩ = some (.int .u32 0) := by rw [HD2'.out.cell]; exact fill_zero _ _ _ _ HL.out.symm (by omega)
          have c6 := HD2'.out.frozen t
          go_wp2_with (go_at_call 269; refine (right_any _ _ _ (by assumption) (by omega)).mono ?_; rintro e w' ⟨rfl, rfl⟩)
          have e1 : bits .xor .u32 (bits .xor .u32 ((Sha.rotr q1 7 : Nat) : Int) ((Sha.rotr q1 18 : Nat) : Int)) ((q1 : Int) / 8) = ((Sha.s0 q1 : Nat) : Int) := xor3 _ _ (q1 / 8) (Sha.rotr_lt l1 (by omega)) (Sha.rotr_lt l1 (by omega)) (by omega)
          have e2 : bits .xor .u32 (bits .xor .u32 ((Sha.rotr q2 17 : Nat) : Int) ((Sha.rotr q2 19 : Nat) : Int)) ((q2 : Int) / 1024) = ((Sha.s1 q2 : Nat) : Int) := xor3 _ _ (q2 / 1024) (Sha.rotr_lt l2 (by omega)) (Sha.rotr_lt l2 (by omega)) (by omega)
          simp only [e1, e2]
          clear e1 e2
          go_still_tail 15, (by kernel_rfl)
          change wpList _ _ _ _ _ wy.drew
          go_wp2
          go_roundw
          case rel =>
            refine ⟨t + 1, by omega, by omega, by go_num, (HX'.out.drew).setCell (by simp) _, HD1'.out.far (by simp) _, ?_⟩
            rw [show t + 1 - 16 = t - 16 + 1 from by omega]
            refine Blk.fill (w := wy.drew) HD2'.out HL.out.symm (by omega) (int_val ?_)
            have e : Sha.nextW (Sha.ext (Sha.w16 xs 16) (t - 16)) (t - 16) = (Sha.s1 q2 + q3 + Sha.s0 q1 + q4) % 4294967296 := by
              unfold Sha.nextW
              rw [hv1.out, hv2.out, hv3.out, hv4.out, show t - 16 + 14 = t - 2 from by omega, show t - 16 + 9 = t - 7 from by omega, show t - 16 + 1 = t - 15 from by omega]
            rw [e]
            omega
          case measure => simp [intOf]; omega
        · have hb64 : Blk wr (w.heap.size + 1) 307 (nums .u32 (Sha.words xs)) := by
            have h := HD2.out
            rw [show t = 64 from by omega] at h
            rw [show Sha.ext (Sha.w16 xs 16) (64 - 16) ++ zrs (64 - 64) = Sha.words xs from List.append_nil _] at h
            exact h
          go_wp2_with (first | refine arr_load rfl _ _ rfl (w.heap.size + 1) rfl _ _ _ hb64 Tryz.underlying307 rfl 64 s64 (by rw [nums_size, Sha.words_length]) ?_ | refine arr_store rfl _ _ _ rfl w.heap.size (nums .u32 (Sha.words xs)) rfl rfl _ _ HD1.out 64 s64 (by rw [nums_size, Sha.words_length]) rfl (nums_one _ _) ?_)
          exact arr_ret rfl w.heap.size _ _ _ rfl (HD1.out.row _) Tryz.underlying307 rfl 64 s64 (by rw [nums_size, Sha.words_length]) rfl ⟨rfl, bel_row HX.out (Nat.le_refl _) _⟩
end Go.Proofs.YtjllhimhiekchaaGreat
