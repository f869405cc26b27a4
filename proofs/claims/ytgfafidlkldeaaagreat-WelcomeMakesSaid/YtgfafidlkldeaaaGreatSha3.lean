/- What a block does to the state: the code's step. No conditions but that the block has 64 bytes. -/
import Derived.Test.YtgfafidlkldeaaaGreatRow
import Derived.Test.YtgfafidlkldeaaaGreatSl
set_option linter.unusedVariables false
set_option linter.unusedSimpArgs false
namespace Go.Proofs.YtgfafidlkldeaaaGreat
section
open Go.RowKit Tryz
theorem OL : bits .and .u64 (IntKind.u64.wrap (-7)) 31 = 25 := by decide +kernel
theorem NT : bits .and .u64 (IntKind.u64.wrap (-18)) 31 = 14 := by decide +kernel
theorem NW : bits .and .u64 (IntKind.u64.wrap (-17)) 31 = 15 := by decide +kernel
theorem NS : bits .and .u64 (IntKind.u64.wrap (-19)) 31 = 13 := by decide +kernel
theorem Oj : bits .and .u64 (IntKind.u64.wrap (-6)) 31 = 26 := by decide +kernel
theorem ML : bits .and .u64 (IntKind.u64.wrap (-11)) 31 = 21 := by decide +kernel
theorem NM : bits .and .u64 (IntKind.u64.wrap (-25)) 31 = 7 := by decide +kernel
theorem Of : bits .and .u64 (IntKind.u64.wrap (-2)) 31 = 30 := by decide +kernel
theorem Nl : bits .and .u64 (IntKind.u64.wrap (-13)) 31 = 19 := by decide +kernel
theorem NO : bits .and .u64 (IntKind.u64.wrap (-22)) 31 = 10 := by decide +kernel
theorem Ev (x n : Nat) (hx : x < 4294967296) (hn : n ≤ 32) (p q : Int) (hp : p = ((x * 2 ^ (32 - n) % 4294967296 : Nat) : Int)) (hq : q = ((x / 2 ^ n : Nat) : Int)) :
  Ending.returned (.int .u32 (bits .or .u32 p q)) = .returned (.int .u32 (Sha.cv x n : Nat)) := by
 subst hp; subst hq
 rw [u32_or_nat _ _ (Nat.mod_lt _ Om) (Nat.lt_of_le_of_lt (Nat.div_le_self _ _) hx), Sha.rN hx hn]
set_option maxHeartbeats 1000000 in
theorem ix (x : Nat) (n : Int) (w : World) (hx : x < 4294967296) (hn : n = 7 ∨ n = 18 ∨ n = 17 ∨ n = 19 ∨ n = 6 ∨ n = 11 ∨ n = 25 ∨ n = 2 ∨ n = 13 ∨ n = 22) :
  Calls Tryz.prog 266 #[.int .u32 x, .int .i64 n] w fun e w' => e = .returned (.int .u32 (Sha.cv x n.toNat : Nat)) ∧ w = w' := by
 have h7 := OL; have Vl := NT; have Vm := NW; have Vn := NS; have h6 := Oj
 have Vo := ML; have Vp := NM; have h2 := Of; have Vq := Nl; have Vr := NO
 rcases hn with rfl | rfl | rfl | rfl | rfl | rfl | rfl | rfl | rfl | rfl
 all_goals
  go_enter func266, ntmps266
  go_wp2
  go_ret
  exact ⟨Ev x _ hx (by decide) _ _ (by simp) (by simp), rfl⟩
theorem Ly : (Tryz.prog.info? 305).map (fun i => i.zero.map (·.cells)) = some (some (aK .u32 (ji 64))) := by kernel_rfl
theorem z8 : (Tryz.prog.info? 284).map (fun i => i.zero.map (·.cells)) = some (some (aK .u32 (ji 8))) := by kernel_rfl
theorem JO : (Tryz.prog.info? 305).map (·.size) = some 64 := by kernel_rfl
theorem s8 : (Tryz.prog.info? 284).map (·.size) = some 8 := by kernel_rfl
set_option maxRecDepth 100000 in
set_option maxHeartbeats 400000 in
theorem yO (w : World) : Calls Tryz.prog 265 #[] w fun e w' => e = .returned (.agg (aK .u32 Sha.K)) ∧ Below w.heap.size w w' := by
 go_enter func265, ntmps265
 go_wp2_with (first | refine dv rfl _ rfl _ Ly w.heap.size rfl ?_ | refine qy rfl _ _ rfl (aK .u32 Sha.K) Kr ?_ | refine dS rfl _ _ _ rfl w.heap.size (aK .u32 Sha.K) rfl rfl _ _ (ao.new w _ _) 64 JO rfl rfl (cF _ _) ?_)
 exact nP rfl w.heap.size _ _ _ rfl ((ao.new w _ _).row _) underlying305 rfl 64 JO rfl rfl ⟨rfl, fv ((Below.refl _ _).alloc (Nat.le_refl _) _) (Nat.le_refl _) _⟩
set_option maxHeartbeats 400000 in
theorem zV (w : World) : Calls Tryz.prog 246 #[] w fun e w' => e = .returned (.agg (aK .u32 Sha.H0)) ∧ Below w.heap.size w w' := by
 go_enter func246, ntmps246
 go_wp2_with (first | refine dv rfl _ rfl _ z8 w.heap.size rfl ?_ | refine qy rfl _ _ rfl (aK .u32 Sha.H0) Kr ?_ | refine dS rfl _ _ _ rfl w.heap.size (aK .u32 Sha.H0) rfl rfl _ _ (ao.new w _ _) 8 s8 rfl rfl (cF _ _) ?_)
 exact nP rfl w.heap.size _ _ _ rfl ((ao.new w _ _).row _) underlying284 rfl 8 s8 rfl rfl ⟨rfl, fv ((Below.refl _ _).alloc (Nat.le_refl _) _) (Nat.le_refl _) _⟩
end
section
open Go.RowKit Tryz
theorem Lz (a b c d : UInt8) : bits .or .u32 (bits .or .u32 (bits .or .u32 ((a.toNat : Int) % 4294967296 * 16777216 % 4294967296) ((b.toNat : Int) % 4294967296 * 65536 % 4294967296)) ((c.toNat : Int) % 4294967296 * 256 % 4294967296)) ((d.toNat : Int) % 4294967296) =
  ((a.toNat * 16777216 + b.toNat * 65536 + c.toNat * 256 + d.toNat : Nat) : Int) := by
 have ha := a.toNat_lt; have hb := b.toNat_lt; have hc := c.toNat_lt; have hd := d.toNat_lt
 generalize a.toNat = a at *; generalize b.toNat = b at *; generalize c.toNat = c at *; generalize d.toNat = d at *
 have e1 : (a : Int) % 4294967296 * 16777216 % 4294967296 = ((a * 16777216 : Nat) : Int) := by omega
 have e2 : (b : Int) % 4294967296 * 65536 % 4294967296 = ((b * 65536 : Nat) : Int) := by omega
 have e3 : (c : Int) % 4294967296 * 256 % 4294967296 = ((c * 256 : Nat) : Int) := by omega
 have e4 : (d : Int) % 4294967296 = (d : Int) := by omega
 rw [e1, e2, e3, e4, u32_or_nat _ _ Om Om, nat_join 24 _ _ Om Om, u32_or_nat _ _ Om Om, nat_join 16 _ _ Om Om, u32_or_nat _ _ Om Om, nat_join 8 _ _ Om Om]
theorem Bi (a b c : Nat) (ha : a < 4294967296) (hb : b < 4294967296) (hc : c < 4294967296) : bits .xor .u32 (bits .xor .u32 (a : Int) (b : Int)) (c : Int) = (((a ^^^ b) ^^^ c : Nat) : Int) := by
 rw [u32_xor_nat _ _ ha hb, u32_xor_nat _ _ (Sha.fP ha hb) hc]
set_option maxRecDepth 100000 in
set_option maxHeartbeats 1000000 in
theorem zi (A : Oa) (c : Nat) (xs : Lb) (w : World) (ha : Bs w A 64 xs) :
   Calls Tryz.prog 264 #[.slice A 64 c] w fun e w' => e = .returned (.agg (aK .u32 (Sha.words xs))) ∧ Below w.heap.size w w' := by
  go_enter func264, ntmps264
  go_wp2_with (first | refine dv rfl _ rfl _ Ly w.heap.size rfl ?_ | refine dv rfl _ rfl _ Ly (w.heap.size + 1) (by simp) ?_)
  go_loopw [4, 10] (fun _ i wr => ∃ k : Nat, k ≤ 16 ∧ i = .int .i64 k ∧ Below w.heap.size w wr ∧ ao wr w.heap.size 305 (aK .u32 (ji 64)) ∧ ao wr (w.heap.size + 1) 305 (aK .u32 (Sha.gU xs k ++ ji (64 - k)))) (fun _ i _ => 16 - (intOf i).toNat)
  case atStart => exact ⟨0, by omega, rfl, ((Below.refl _ _).alloc (Nat.le_refl _) _).alloc (by simp) _, (ao.new w _ _).alloc _, by have := ao.new (w.alloc (.cells (aK .u32 (ji 64)) 305)) 305 (aK .u32 (ji 64)); rw [World.size_alloc] at this; exact this⟩
  case round =>
    obtain ⟨k, hk, rfl, hbw, Vx, Vy⟩ := hrel
    have Vs := Lib.hid Vx
    have Vm := Lib.hid Vy
    have HW := Lib.hid hbw
    clear Vx Vy hbw
    by_cases hlt : k < 16
    · have Vn := ha.below HW.out
      obtain ⟨b, off, x0, rfl, Vz, VV⟩ := Vn.byte (k := 4 * k) Om
      obtain ⟨x1, VA, VW⟩ := Vn.xj (k := 4 * k + 1) Om
      obtain ⟨x2, VB, VX⟩ := Vn.xj (k := 4 * k + 2) Om
      obtain ⟨x3, VC, VY⟩ := Vn.xj (k := 4 * k + 3) Om
      clear Vn
      have hcc : wr.cell? ⟨w.heap.size + 1, k, none⟩ = some (.int .u32 0) := by
        rw [Vm.out.cell]; exact rm _ _ _ _ (by rw [Sha.dM]) Om
      have hff := Vm.out.frozen k
      have VZ : IntKind.i64.wrap (4 * (k : Int)) = 4 * (k : Int) := IntWalk.i64_in _ Om
      have V0 : 0 ≤ 4 * (k : Int) := by omega
      have V1 : 4 * (k : Int) < 64 := by omega
      have V2 : (4 * (k : Int)).toNat = 4 * k := by omega
      have VH : IntKind.i64.wrap (4 * (k : Int) + 1) = 4 * (k : Int) + 1 := IntWalk.i64_in _ Om
      have VI : 0 ≤ 4 * (k : Int) + 1 := by omega
      have VJ : 4 * (k : Int) + 1 < 64 := by omega
      have VK : (4 * (k : Int) + 1).toNat = 4 * k + 1 := by omega
      have VL : IntKind.i64.wrap (4 * (k : Int) + 2) = 4 * (k : Int) + 2 := IntWalk.i64_in _ Om
      have VM : 0 ≤ 4 * (k : Int) + 2 := by omega
      have VN : 4 * (k : Int) + 2 < 64 := by omega
      have VO : (4 * (k : Int) + 2).toNat = 4 * k + 2 := by omega
      have VP : IntKind.i64.wrap (4 * (k : Int) + 3) = 4 * (k : Int) + 3 := IntWalk.i64_in _ Om
      have VQ : 0 ≤ 4 * (k : Int) + 3 := by omega
      have VR : 4 * (k : Int) + 3 < 64 := by omega
      have VS : (4 * (k : Int) + 3).toNat = 4 * k + 3 := by omega
      have VT : (k : Int) < 64 := by omega
      go_wp2_with fail
      go_still_tail 35, Kr
      change wpList _ _ _ _ _ wr.drew
      go_wp2
      go_roundw
      case rel =>
        rw [Lz]
        refine ⟨k + 1, by omega, by go_num, (HW.out.drew).setCell (by simp) _, Vs.out.xM (by simp) _, ?_⟩
        have h := Vm.out.set k (.int .u32 ((x0.toNat * 16777216 + x1.toNat * 65536 + x2.toNat * 256 + x3.toNat : Nat) : Int))
        rw [tB _ _ _ (64 - (k + 1)) _ _ (by rw [Sha.dM]) Om] at h
        rw [Vz.out, VA.out, VB.out, VC.out] at h
        rw [Vz.out, VA.out, VB.out, VC.out]
        exact h
      case measure => simp [intOf]; omega
    · have Vo : ao wr (w.heap.size + 1) 305 (aK .u32 (Sha.gU xs 16 ++ ji 48)) := by
        have h := Vm.out
        rw [show k = 16 from by omega] at h
        exact h
      have Vp := Lib.hid Vo
      clear Vo Vm
      go_wp2
      obtain ⟨wo, rfl⟩ : ∃ wo : World, wo = wr := ⟨_, rfl⟩
      go_loopw [5, 6, 7, 8, 9] (fun i _ _ _ _ wx => ∃ t : Nat, 16 ≤ t ∧ t ≤ 64 ∧ i = .int .i64 t ∧ Below w.heap.size w wx ∧ ao wx w.heap.size 305 (aK .u32 (ji 64)) ∧ ao wx (w.heap.size + 1) 305 (aK .u32 (Sha.ext (Sha.gU xs 16) (t - 16) ++ ji (64 - t)))) (fun i _ _ _ _ _ => 64 - (intOf i).toNat)
      case atStart => exact ⟨16, by omega, by omega, rfl, HW.out, Vs.out, Vp.out⟩
      case round =>
        obtain ⟨t, V4, V5, rfl, hbx, VD, VE⟩ := hrel
        have Vr := Lib.hid VD
        have Vq := Lib.hid VE
        have HX := Lib.hid hbx
        clear VD VE hbx Vs Vp HW
        by_cases hlt : t < 64
        · have hlen : (Sha.ext (Sha.gU xs 16) (t - 16)).length = t := by rw [Sha.eu, Sha.dM]; omega
          have hltA := Sha.oU (Sha.gU xs 16) (Sha.pR xs 16) (t - 16)
          obtain ⟨q1, Vt⟩ : ∃ q, Hid (q = (Sha.ext (Sha.gU xs 16) (t - 16)).getD (t - 15) 0) := ⟨_, rfl⟩
          obtain ⟨q2, Vu⟩ : ∃ q, Hid (q = (Sha.ext (Sha.gU xs 16) (t - 16)).getD (t - 2) 0) := ⟨_, rfl⟩
          obtain ⟨q3, VF⟩ : ∃ q, Hid (q = (Sha.ext (Sha.gU xs 16) (t - 16)).getD (t - 7) 0) := ⟨_, rfl⟩
          obtain ⟨q4, VG⟩ : ∃ q, Hid (q = (Sha.ext (Sha.gU xs 16) (t - 16)).getD (t - 16) 0) := ⟨_, rfl⟩
          have l1 : q1 < 4294967296 := by rw [Vt.out]; exact Sha.fB hltA _
          have l2 : q2 < 4294967296 := by rw [Vu.out]; exact Sha.fB hltA _
          have c1 : wr.cell? ⟨w.heap.size + 1, t - 15, none⟩ = some (.int .u32 q1) := by rw [Vq.out.cell, Vt.out]; exact mh _ _ _ _ (by rw [hlen]; omega)
          have c2 : wr.cell? ⟨w.heap.size + 1, t - 2, none⟩ = some (.int .u32 q2) := by rw [Vq.out.cell, Vu.out]; exact mh _ _ _ _ (by rw [hlen]; omega)
          have HL := Lib.hid hlen
          clear hlen hltA
          have VH : IntKind.i64.wrap ((t : Int) - 15) = (t : Int) - 15 := br Om Om; have VI : (15 : Int) ≤ (t : Int) := Om; have VJ : (t : Int) - 15 < 64 := Om; have VK : ((t : Int) - 15).toNat = t - 15 := Om
          have VL : IntKind.i64.wrap ((t : Int) - 2) = (t : Int) - 2 := br Om Om; have VM : (2 : Int) ≤ (t : Int) := Om; have VN : (t : Int) - 2 < 64 := Om; have VO : ((t : Int) - 2).toNat = t - 2 := Om
          have VP : IntKind.i64.wrap ((t : Int) - 7) = (t : Int) - 7 := br Om Om; have VQ : (7 : Int) ≤ (t : Int) := Om; have VR : (t : Int) - 7 < 64 := Om; have VS : ((t : Int) - 7).toNat = t - 7 := Om
          have V6 : IntKind.i64.wrap ((t : Int) - 16) = (t : Int) - 16 := br Om Om; have Wa : (16 : Int) ≤ (t : Int) := Om; have VT : (t : Int) - 16 < 64 := Om; have Wb : ((t : Int) - 16).toNat = t - 16 := Om
          have Wc : (t : Int) < 64 := by omega
          go_wp2_with fail
          go_quiet (fail)
          clear c1 c2
          have Vv : Hid (ao (wr.drewN nq) w.heap.size 305 (aK .u32 (ji 64))) := Vr.out
          have Vl : Hid (ao (wr.drewN nq) (w.heap.size + 1) 305 (aK .u32 (Sha.ext (Sha.gU xs 16) (t - 16) ++ ji (64 - t)))) := Vq.out
          have VU : Hid (Below w.heap.size w (wr.drewN nq)) := jW HX.out nq
          generalize wr.drewN nq = wy at *
          clear Vr Vq HX
          have c3 : wy.cell? ⟨w.heap.size + 1, t - 7, none⟩ = some (.int .u32 q3) := by rw [Vl.out.cell, VF.out]; exact mh _ _ _ _ (by rw [HL.out]; omega)
          have c4 : wy.cell? ⟨w.heap.size + 1, t - 16, none⟩ = some (.int .u32 q4) := by rw [Vl.out.cell, VG.out]; exact mh _ _ _ _ (by rw [HL.out]; omega)
          have c5 : wy.cell? ⟨w.heap.size + 1, t, none⟩ = some (.int .u32 0) := by rw [Vl.out.cell]; exact rm _ _ _ _ HL.out.symm Om
          have c6 := Vl.out.frozen t
          go_wp2_with (go_at_call 266; refine (ix _ _ _ (by assumption) Om).mono ?_; rintro e w' ⟨rfl, rfl⟩)
          have e1 : bits .xor .u32 (bits .xor .u32 ((Sha.cv q1 7 : Nat) : Int) ((Sha.cv q1 18 : Nat) : Int)) ((q1 : Int) / 8) = ((Sha.s0 q1 : Nat) : Int) := Bi _ _ (q1 / 8) (Sha.ba l1 Om) (Sha.ba l1 Om) Om
          have e2 : bits .xor .u32 (bits .xor .u32 ((Sha.cv q2 17 : Nat) : Int) ((Sha.cv q2 19 : Nat) : Int)) ((q2 : Int) / 1024) = ((Sha.s1 q2 : Nat) : Int) := Bi _ _ (q2 / 1024) (Sha.ba l2 Om) (Sha.ba l2 Om) Om
          simp only [e1, e2]
          clear e1 e2
          go_still_tail 15, Kr
          change wpList _ _ _ _ _ wy.drew
          go_wp2
          go_roundw
          case rel =>
            refine ⟨t + 1, by omega, by omega, by go_num, (VU.out.drew).setCell (by simp) _, Vv.out.xM (by simp) _, ?_⟩
            rw [show t + 1 - 16 = t - 16 + 1 from by omega]
            refine ao.fill (w := wy.drew) Vl.out HL.out.symm Om (rU ?_)
            have e : Sha.gF (Sha.ext (Sha.gU xs 16) (t - 16)) (t - 16) = (Sha.s1 q2 + q3 + Sha.s0 q1 + q4) % 4294967296 := by
              unfold Sha.gF
              rw [Vt.out, Vu.out, VF.out, VG.out, show t - 16 + 14 = t - 2 from by omega, show t - 16 + 9 = t - 7 from by omega, show t - 16 + 1 = t - 15 from by omega]
            rw [e]
            omega
          case measure => simp [intOf]; omega
        · have Vw : ao wr (w.heap.size + 1) 305 (aK .u32 (Sha.words xs)) := by
            have h := Vq.out
            rw [show t = 64 from by omega] at h
            rw [show Sha.ext (Sha.gU xs 16) (64 - 16) ++ ji (64 - 64) = Sha.words xs from List.append_nil _] at h
            exact h
          go_wp2_with (first | refine mv rfl _ _ rfl (w.heap.size + 1) rfl _ _ _ Vw underlying305 rfl 64 JO (by rw [bc, Sha.cn]) ?_ | refine dS rfl _ _ _ rfl w.heap.size (aK .u32 (Sha.words xs)) rfl rfl _ _ Vr.out 64 JO (by rw [bc, Sha.cn]) rfl (cF _ _) ?_)
          exact nP rfl w.heap.size _ _ _ rfl (Vr.out.row _) underlying305 rfl 64 JO (by rw [bc, Sha.cn]) rfl ⟨rfl, fv HX.out (Nat.le_refl _) _⟩
end
section
open Go.RowKit Tryz
theorem L8 : (Tryz.prog.info? 227).map (·.size) = some 1 := by kernel_rfl
theorem Es (e f g : Nat) (he : e < 4294967296) (hf : f < 4294967296) (hg : g < 4294967296) :
  bits .xor .u32 (bits .and .u32 (e : Int) (f : Int)) (bits .and .u32 (bits .xor .u32 IntKind.u32.max (e : Int)) (g : Int)) = ((Sha.ch e f g : Nat) : Int) := by
 have h1 : bits .xor .u32 IntKind.u32.max (e : Int) = ((4294967295 - e : Nat) : Int) := by
  show bits .xor .u32 ((4294967295 : Nat) : Int) (e : Int) = _
  rw [u32_xor_nat _ _ Om he]
  congr 1
  apply Nat.eq_of_testBit_eq
  intro i
  have h1 := Nat.testBit_two_pow_sub_succ (n := 32) he i
  have h2 := Nat.testBit_two_pow_sub_one 32 i
  rw [show (2 : Nat) ^ 32 - (e + 1) = 4294967295 - e from by omega] at h1
  rw [show (2 : Nat) ^ 32 - 1 = 4294967295 from rfl] at h2
  rw [Nat.testBit_xor, h1, h2]
  by_cases hi : i < 32
  ·simp [hi]
  ·have : e.testBit i = false := Nat.testBit_lt_two_pow (Nat.lt_of_lt_of_le he (Nat.pow_le_pow_right (n := 2) Om (by omega : 32 ≤ i)))
   simp [hi, this]
 rw [h1, u32_and_nat _ _ he hf, u32_and_nat _ _ Om hg, u32_xor_nat _ _ (Sha.dW he) (Sha.dW Om)]
 rfl
theorem Ba (a b c : Nat) (ha : a < 4294967296) (hb : b < 4294967296) (hc : c < 4294967296) :
  bits .xor .u32 (bits .xor .u32 (bits .and .u32 (a : Int) (b : Int)) (bits .and .u32 (a : Int) (c : Int))) (bits .and .u32 (b : Int) (c : Int)) = ((Sha.zP a b c : Nat) : Int) := by
 rw [u32_and_nat _ _ ha hb, u32_and_nat _ _ ha hc, u32_and_nat _ _ hb hc, Bi _ _ _ (Sha.dW ha) (Sha.dW ha) (Sha.dW hb)]
 rfl
theorem Gk {w : World} {g' : Nat} {t : TypeId} {a b c d e f g h kt wt : Nat} {x y : Int} (hb : ao w g' t (aK .u32 [a, a, b, c, d, e, f, g])) (hx : x = (((d + Sha.T1 ⟨a, b, c, d, e, f, g, h⟩ kt wt) % 4294967296 : Nat) : Int))
  (hy : y = (((Sha.T1 ⟨a, b, c, d, e, f, g, h⟩ kt wt + Sha.T2 ⟨a, b, c, d, e, f, g, h⟩) % 4294967296 : Nat) : Int)) :
  ao ((w.setCell ⟨g', 4, none⟩ (.int .u32 x)).setCell ⟨g', 0, none⟩ (.int .u32 y)) g' t (aK .u32 (Sha.vp ⟨a, b, c, d, e, f, g, h⟩ kt wt).list) := by
 subst hx; subst hy
 exact (hb.set 4 _).set 0 _
theorem DU {s : Sha.S8} (h : s.ok) (i : Nat) : s.list.getD i 0 < 4294967296 := by
 obtain ⟨h1, h2, h3, h4, h5, h6, h7, h8⟩ := h
 refine Sha.fB ?_ i
 simp only [Sha.S8.list, List.mem_cons, List.not_mem_nil, or_false]
 rintro _ (rfl | rfl | rfl | rfl | rfl | rfl | rfl | rfl) <;> assumption
theorem tp (w : World) (o : Obj) (t : TypeId) (cs : Array Value) : ao ((w.alloc o).alloc (.cells cs t)) (w.heap.size + 1) t cs := by
 have := ao.new (w.alloc o) t cs; rw [World.size_alloc] at this; exact this
theorem uV (w : World) {n : Nat} (t : TypeId) (cs : Array Value) (h : w.heap.size = n) : ao (w.alloc (.cells cs t)) n t cs := by
 subst h; exact ao.new w t cs
set_option maxRecDepth 100000 in
set_option maxHeartbeats 1000000 in
theorem CM (A : Oa) (c : Nat) (xs : Lb) (g : Nat) (s : Sha.S8) (w : World) (ha : Bs w A 64 xs) (hs : s.ok)
   (hg : ao w g 284 (aK .u32 s.list)) :
   Calls Tryz.prog 248 #[.pointer (some ⟨g, 0, none⟩), .slice A 64 c] w fun e w' => e = .returned (.tuple #[]) ∧ ao w' g 284 (aK .u32 (Sha.step s xs).list) ∧ w.grownBy w' (some g) := by
  go_enter func248, ntmps248
  go_wp2_with fail
  refine (zi _ _ _ _ ha).mono ?_
  rintro e _ ⟨rfl, Vp⟩
  go_wp2_with fail
  refine (yO _).mono ?_
  rintro e w2 ⟨rfl, Vq⟩
  have hbb : Below w.heap.size w w2 := Vp.trans (Vq.mono Vp.size)
  have Vw : ao w2 g 284 (aK .u32 s.list) := hg.kept hbb
  have hgl := Vw.lt
  have HG := Lib.hid Vw
  have HB := Lib.hid hbb
  clear Vp Vq Vw hbb
  go_wp2_with (first
    | refine dv rfl _ rfl _ Ly w2.heap.size rfl ?_
    | refine dv rfl _ rfl _ Ly (w2.heap.size + 1) (by simp) ?_
    | refine dS rfl _ (.tmp 4) (.tmp 14) rfl w2.heap.size (aK .u32 (Sha.words xs)) rfl rfl _ _ ((ao.new w2 _ _).alloc _) 64 JO (by rw [bc, Sha.cn]) rfl (cF _ _) ?_
    | (refine dS rfl _ (.tmp 5) (.tmp 15) rfl (w2.heap.size + 1) (aK .u32 Sha.K) rfl rfl _ _ ((tp w2 _ _ _).gV Om _) 64 JO rfl rfl (cF _ _) ?_
       obtain ⟨w3, Vn⟩ : ∃ w3, w3 = (((w2.alloc (.cells (aK .u32 (ji 64)) 305)).alloc (.cells (aK .u32 (ji 64)) 305)).setRow w2.heap.size (aK .u32 (Sha.words xs))).setRow (w2.heap.size + 1) (aK .u32 Sha.K) := ⟨_, rfl⟩
       have q4 : ao w3 w2.heap.size 305 (aK .u32 (Sha.words xs)) := by rw [Vn]; exact ((((ao.new w2 _ _).alloc _).row _).gV Om _)
       have q5 : ao w3 (w2.heap.size + 1) 305 (aK .u32 Sha.K) := by rw [Vn]; exact (((tp w2 _ _ _).gV Om _).row _)
       have qg : ao w3 g 284 (aK .u32 s.list) := by rw [Vn]; exact ((((HG.out.alloc _).alloc _).gV Om _).gV Om _)
       have qb : Below w2.heap.size w2 w3 := by rw [Vn]; exact fv (fv (((Below.refl _ _).alloc (Nat.le_refl _) _).alloc (by simp) _) (Nat.le_refl _) _) Om _
       have qs : w3.heap.size = w2.heap.size + 2 := by rw [Vn]; simp [World.setRow]
       rw [← Vn]
       have Q4 := Lib.hid q4; have Q5 := Lib.hid q5; have QG := Lib.hid qg; have QB := Lib.hid qb; have QS := Lib.hid qs
       clear q4 q5 qg qb qs Vn)
    | refine mv rfl _ (.tmp 17) rfl g rfl _ _ _ QG.out underlying284 rfl 8 s8 rfl ?_
    | refine dv rfl _ rfl _ z8 (w2.heap.size + 2) QS.out ?_
    | refine dS rfl _ (.tmp 6) (.tmp 18) rfl (w2.heap.size + 2) (aK .u32 s.list) rfl rfl _ _ (uV _ _ _ QS.out) 8 s8 rfl rfl (cF _ _) ?_)
  go_loopw [7, 8, 9, 10, 11, 19] (fun _ _ _ _ _ i wr => ∃ t : Nat, t ≤ 64 ∧ i = .int .i64 t ∧ Below w2.heap.size w2 wr ∧ w2.heap.size + 3 ≤ wr.heap.size ∧ ao wr w2.heap.size 305 (aK .u32 (Sha.words xs)) ∧ ao wr (w2.heap.size + 1) 305 (aK .u32 Sha.K)
      ∧ ao wr (w2.heap.size + 2) 284 (aK .u32 (Sha.rounds (Sha.words xs) s t).list)) (fun _ _ _ _ _ i _ => 64 - (intOf i).toNat)
  case atStart => exact ⟨0, by omega, rfl, fv (QB.out.alloc (by rw [QS.out]; omega) _) Om _, by simp [World.setRow, QS.out], (Q4.out.alloc _).gV Om _, (Q5.out.alloc _).gV Om _, (uV _ _ _ QS.out).row _⟩
  case round =>
    obtain ⟨t, ht, rfl, hbx, hsx, Vx, Vy, Vz⟩ := hrel
    have Vr := Lib.hid Vx; have Vs := Lib.hid Vy; have Vt := Lib.hid Vz; have HX := Lib.hid hbx
    clear Vx Vy Vz hbx Q4 Q5 QB QS
    by_cases hlt : t < 64
    · obtain ⟨R, hR⟩ : ∃ R, Hid (R = Sha.rounds (Sha.words xs) s t) := ⟨_, rfl⟩
      have hok : R.ok := by rw [hR.out]; exact Sha.fZ _ hs _
      obtain ⟨a, b, c', d, e, f, g', hh⟩ := R
      obtain ⟨la, lb, lc, ld, le, lf, lg, lh⟩ := hok
      obtain ⟨kt, hkt⟩ : ∃ q, Hid (q = Sha.K.getD t 0) := ⟨_, rfl⟩
      obtain ⟨wt, hwt⟩ : ∃ q, Hid (q = (Sha.words xs).getD t 0) := ⟨_, rfl⟩
      have Vm : ao wr (w2.heap.size + 2) 284 (aK .u32 [a, b, c', d, e, f, g', hh]) := by have := Vt.out; rw [← hR.out] at this; exact this
      have Vl := Lib.hid Vm
      clear Vm Vt
      have x0 : wr.cell? ⟨w2.heap.size + 2, 0, none⟩ = some (.int .u32 a) := by rw [Vl.out.cell]; rfl
      have x1 : wr.cell? ⟨w2.heap.size + 2, 1, none⟩ = some (.int .u32 b) := by rw [Vl.out.cell]; rfl
      have x2 : wr.cell? ⟨w2.heap.size + 2, 2, none⟩ = some (.int .u32 c') := by rw [Vl.out.cell]; rfl
      have x4 : wr.cell? ⟨w2.heap.size + 2, 4, none⟩ = some (.int .u32 e) := by rw [Vl.out.cell]; rfl
      have x5 : wr.cell? ⟨w2.heap.size + 2, 5, none⟩ = some (.int .u32 f) := by rw [Vl.out.cell]; rfl
      have x6 : wr.cell? ⟨w2.heap.size + 2, 6, none⟩ = some (.int .u32 g') := by rw [Vl.out.cell]; rfl
      have x7 : wr.cell? ⟨w2.heap.size + 2, 7, none⟩ = some (.int .u32 hh) := by rw [Vl.out.cell]; rfl
      have y1 : wr.cell? ⟨w2.heap.size, t, none⟩ = some (.int .u32 wt) := by rw [Vr.out.cell, hwt.out]; exact de _ _ _ (by rw [Sha.cn]; omega)
      have y2 : wr.cell? ⟨w2.heap.size + 1, t, none⟩ = some (.int .u32 kt) := by rw [Vs.out.cell, hkt.out]; exact de _ _ _ (by show t < 64; omega)
      have VG : (t : Int) < 64 := by omega
      go_wp2_with fail
      go_quiet (fail)
      obtain ⟨n1, rfl⟩ : ∃ n : Nat, n = nq := ⟨_, rfl⟩
      go_wp2_with fail
      go_quiet ((go_at_call 266; first | exact Ib (ix _ _ _ (by assumption) Om) | exact rh (ix _ _ _ (by assumption) Om)))
      obtain ⟨n2, rfl⟩ : ∃ n : Nat, n = nq := ⟨_, rfl⟩
      go_wp2_with fail
      go_quiet ((go_at_call 266; first | exact Ib (ix _ _ _ (by assumption) Om) | exact rh (ix _ _ _ (by assumption) Om)))
      obtain ⟨n3, rfl⟩ : ∃ n : Nat, n = nq := ⟨_, rfl⟩
      have z1 : Hid (ao ((wr.drewN (n1 + n2)).drewN n3) w2.heap.size 305 (aK .u32 (Sha.words xs))) := Vr.out
      have z2 : Hid (ao ((wr.drewN (n1 + n2)).drewN n3) (w2.heap.size + 1) 305 (aK .u32 Sha.K)) := Vs.out
      have z3 : Hid (ao ((wr.drewN (n1 + n2)).drewN n3) (w2.heap.size + 2) 284 (aK .u32 [a, b, c', d, e, f, g', hh])) := Vl.out
      have z4 : Hid (Below w2.heap.size w2 ((wr.drewN (n1 + n2)).drewN n3)) := jW (jW HX.out _) _
      have z5 : w2.heap.size + 3 ≤ ((wr.drewN (n1 + n2)).drewN n3).heap.size := hsx
      go_wp2_with fail
      generalize (wr.drewN (n1 + n2)).drewN n3 = wy at *
      clear Vr Vs Vl HX hsx x0 x1 x2 x4 x5 x6 x7 y1 y2
      go_still_tail 2, Kr
      change wpList _ _ _ _ _ wy.drew
      refine Cf rfl _ _ _ _ _ rfl (w2.heap.size + 2) 1 7 7 (some ⟨w2.heap.size + 2, 0, none⟩) 7 8 _ _ ([a, b, c', d, e, f, g'].map (iv .u32)) rfl rfl underlying309 L8 z3.out (z3.out.at 0 _ (uU .u32 [a, b, c', d, e, f, g'] [hh])) rfl (Nat.le_refl 8) kO ?_
      have v3 : Hid (ao (wy.drew.setRow (w2.heap.size + 2) (aK .u32 [a, a, b, c', d, e, f, g'])) (w2.heap.size + 2) 284 (aK .u32 [a, a, b, c', d, e, f, g'])) := z3.out.row (w := wy.drew) _
      have v1 : Hid (ao (wy.drew.setRow (w2.heap.size + 2) (aK .u32 [a, a, b, c', d, e, f, g'])) w2.heap.size 305 (aK .u32 (Sha.words xs))) := z1.out.gV (w := wy.drew) Om _
      have v2 : Hid (ao (wy.drew.setRow (w2.heap.size + 2) (aK .u32 [a, a, b, c', d, e, f, g'])) (w2.heap.size + 1) 305 (aK .u32 Sha.K)) := z2.out.gV (w := wy.drew) Om _
      have v4 : Hid (Below w2.heap.size w2 (wy.drew.setRow (w2.heap.size + 2) (aK .u32 [a, a, b, c', d, e, f, g']))) := fv z4.out.drew Om _
      have v5 : w2.heap.size + 3 ≤ (wy.drew.setRow (w2.heap.size + 2) (aK .u32 [a, a, b, c', d, e, f, g'])).heap.size := by rw [size_setRow]; exact z5
      change wpList _ _ _ _ _ (wy.drew.setRow (w2.heap.size + 2) (aK .u32 [a, a, b, c', d, e, f, g']))
      generalize wy.drew.setRow (w2.heap.size + 2) (aK .u32 [a, a, b, c', d, e, f, g']) = wz at *
      clear z1 z2 z3 z4 z5
      have x4 : wz.cell? ⟨w2.heap.size + 2, 4, none⟩ = some (.int .u32 d) := by rw [v3.out.cell]; rfl
      have x0 : wz.cell? ⟨w2.heap.size + 2, 0, none⟩ = some (.int .u32 a) := by rw [v3.out.cell]; rfl
      have f4 := v3.out.frozen 4
      have f0 := v3.out.frozen 0
      go_wp2
      go_roundw
      case rel =>
        rw [Bi _ _ _ (Sha.ba le Om) (Sha.ba le Om) (Sha.ba le Om), Bi _ _ _ (Sha.ba la Om) (Sha.ba la Om) (Sha.ba la Om), Es e f g' le lf lg, Ba a b c' la lb lc]
        refine ⟨t + 1, by omega, by go_num, (v4.out.setCell (by show _ ≤ w2.heap.size + 2; omega) _).setCell (by show _ ≤ w2.heap.size + 2; omega) _, by rw [size_setCell, size_setCell]; exact v5, (v1.out.xM (by show _ ≠ w2.heap.size + 2; omega) _).xM (by show _ ≠ w2.heap.size + 2; omega) _, (v2.out.xM (by show _ ≠ w2.heap.size + 2; omega) _).xM (by show _ ≠ w2.heap.size + 2; omega) _, ?_⟩
        have e1 : Sha.rounds (Sha.words xs) s (t + 1) = Sha.vp ⟨a, b, c', d, e, f, g', hh⟩ kt wt := by
          rw [hR.out, hkt.out, hwt.out]; rfl
        rw [e1]
        exact Gk v3.out (by simp only [Sha.T1, Sha.S1]; omega) (by simp only [Sha.T1, Sha.T2, Sha.S1, Sha.S0]; omega)
      case measure => simp [intOf]; omega
    · have Vm : ao wr (w2.heap.size + 2) 284 (aK .u32 (Sha.rounds (Sha.words xs) s 64).list) := by
        have h := Vt.out
        rw [show t = 64 from by omega] at h
        exact h
      have hgr : w.grownBy wr (some g) := wZ (ny HB.out (Nat.le_refl _) _) HX.out
      have hgg : ao wr g 284 (aK .u32 s.list) := HG.out.kept HX.out
      have Vl := Lib.hid Vm; have HGR := Lib.hid hgr; have HGG := Lib.hid hgg
      clear Vm Vt hgr hgg Vr Vs HX QG
      go_wp2
      obtain ⟨wo, rfl⟩ : ∃ wo : World, wo = wr := ⟨_, rfl⟩
      obtain ⟨m, hm⟩ : ∃ m, Hid (m = (Sha.rounds (Sha.words xs) s 64).list) := ⟨_, rfl⟩
      obtain ⟨l, hl⟩ : ∃ l, Hid (l = s.list) := ⟨_, rfl⟩
      have VA : m.length = 8 := by rw [hm.out]; rfl
      have VB : l.length = 8 := by rw [hl.out]; rfl
      have okl : ∀ i, l.getD i 0 < 4294967296 := by rw [hl.out]; exact DU hs
      have vl : ∀ i, m.getD i 0 < 4294967296 := by rw [hm.out]; exact DU (Sha.fZ _ hs _)
      have Vu := Lib.hid VA; have Vo := Lib.hid VB
      clear VA VB okl vl
      go_loopw [12, 93] (fun _ i wx => ∃ k : Nat, k ≤ 8 ∧ i = .int .i64 k ∧ w.grownBy wx (some g) ∧ w2.heap.size + 3 ≤ wx.heap.size ∧ ao wx g 284 (aK .u32 (Sha.eB l m k)) ∧ ao wx (w2.heap.size + 2) 284 (aK .u32 m)) (fun _ i _ => 8 - (intOf i).toNat)
      case atStart => exact ⟨0, by omega, rfl, HGR.out, hsx, by rw [Sha.jJ, hl.out]; exact HGG.out, by rw [hm.out]; exact Vl.out⟩
      case round =>
        obtain ⟨k, hk, rfl, VC, VF, Vp, Vq⟩ := hrel
        have Vv := Lib.hid Vp; have VD := Lib.hid Vq; have VE := Lib.hid VC
        clear Vp Vq VC HGR HGG Vl
        by_cases hlt : k < 8
        · obtain ⟨p, hp⟩ : ∃ p, Hid (p = l.getD k 0) := ⟨_, rfl⟩
          obtain ⟨q, hq⟩ : ∃ q, Hid (q = m.getD k 0) := ⟨_, rfl⟩
          have x1 : wr.cell? ⟨g, k, none⟩ = some (.int .u32 p) := by
            rw [Vv.out.cell, de _ _ _ (by rw [Sha.jA (Vo.out.trans Vu.out.symm) (by rw [Vo.out]; omega), Vo.out]; omega), Sha.lQ (Vo.out.trans Vu.out.symm) (by rw [Vo.out]; omega), hp.out]
          have x2 : wr.cell? ⟨w2.heap.size + 2, k, none⟩ = some (.int .u32 q) := by rw [VD.out.cell, hq.out]; exact de _ _ _ (by rw [Vu.out]; omega)
          have f1 := Vv.out.frozen k
          have VH : (k : Int) < 8 := by omega
          go_wp2_with fail
          go_still_tail 11, Kr
          change wpList _ _ _ _ _ wr.drew
          go_wp2
          go_roundw
          case rel =>
            refine ⟨k + 1, by omega, by go_num, qw (xu VE.out) (.inl rfl) _, by show _ ≤ (World.setCell wr _ _).heap.size; rw [size_setCell]; exact VF, ?_, VD.out.xM (w := wr.drew) (by show _ ≠ g; omega) _⟩
            have h := Vv.out.set (w := wr.drew) k (.int .u32 (((p + q) % 4294967296 : Nat) : Int))
            rw [eS, hp.out, hq.out, Sha.mo (Vo.out.trans Vu.out.symm) (by rw [Vo.out]; omega)] at h
            rw [hp.out, hq.out]
            exact h
          case measure => simp [intOf]; omega
        · go_wp2
          go_end0
          have h := Vv.out
          rw [show k = 8 from by omega, hl.out, hm.out] at h
          exact ⟨rfl, h, VE.out⟩
end
end Go.Proofs.YtgfafidlkldeaaaGreat
