/- The reference's Div, Primes, Root, Roots, Sum: what each hands back. -/
import Derived.Test.YtgfafidlkldeaaaGreatSl
import Derived.Test.YtgfafidlkldeaaaGreatAu
import Derived.Test.YtgfafidlkldeaaaGreatVc7
import Derived.ArgAppend
import Derived.Laws.BitsAllLaws
import Derived.Test.YtgfafidlkldeaaaGreatRow
import Derived.Test.YtgfafidlkldeaaaGreatLib
set_option linter.unusedVariables false
set_option linter.unusedSimpArgs false
set_option maxHeartbeats 4000000
set_option maxRecDepth 4000
namespace Go.Proofs.YtgfafidlkldeaaaGreat
section
open Go.RowKit Tryz
attribute [local irreducible] Y Ef WL WC WK WQ WM cx
theorem Fz (x : Nat) : IntKind.u8.wrap (x : Int) = ((UInt8.ofNat x).toNat : Int) := by
 rw [IntKind.wrap_u8', UInt8.toNat_ofNat']; omega
theorem yJ (n j : Nat) (hj : j ≤ 7) (b : Int) (hb : b = 8 * j) : (n : Int) / 2 ^ (min b.toNat IntKind.u64.bits) = ((n / 256 ^ j : Nat) : Int) := by
 have e : min b.toNat IntKind.u64.bits = 8 * j := by
  have : IntKind.u64.bits = 64 := rfl
  omega
 have h2 : (2 : Int) ^ (8 * j) = ((256 ^ j : Nat) : Int) := by
  rw [show (256 : Nat) = 2 ^ 8 from rfl, ← Nat.pow_mul, Int.natCast_pow]; rfl
 rw [e, h2]
 exact (Int.natCast_ediv _ _).symm
theorem Gu (n : Nat) (w : World) : Ct 192 #[.int .i64 (n : Int)] w fun e w' => e = .returned (.bool (decide (n = 1 ∨ n = 2 ∨ n = 4 ∨ n = 8))) ∧ Ext w w' := by
 refine aj 17 func192 rfl rfl rfl rfl ?_
 intro _ hret
 refine au 8 ?_
 refine bH (cA rfl rfl) rfl (fun h1 => ?_) (fun h1 => ?_)
 ·refine aU ?_
  refine hret rfl ?_
  exact ⟨by rw [decide_eq_true Om], Ext.refl _⟩
 ·refine au 2 ?_
  refine aG 5 rfl rfl (cA rfl rfl) rfl (fun h2 => ?_) (fun h2 => ?_)
  ·refine aU ?_
   refine hret rfl ?_
   exact ⟨by rw [decide_eq_true Om], Ext.refl _⟩
  ·refine au 3 ?_
   refine aG 9 rfl rfl (cA rfl rfl) rfl (fun h3 => ?_) (fun h3 => ?_)
   ·refine aU ?_
    refine hret rfl ?_
    exact ⟨by rw [decide_eq_true Om], Ext.refl _⟩
   ·refine au 3 ?_
    refine aG 13 rfl rfl (cA rfl rfl) rfl (fun h4 => ?_) (fun h4 => ?_)
    ·refine aU ?_
     refine hret rfl ?_
     exact ⟨by rw [decide_eq_true Om], Ext.refl _⟩
    ·refine aU ?_
     refine hret rfl ?_
     exact ⟨by rw [decide_eq_false Om], Ext.refl _⟩
theorem ud (n : Nat) (w : World) (h : n < 1073741824) : Ct 249 #[.int .i64 (n : Int)] w fun e w' => e = .returned (.int .i64 (Wire.iE n : Nat)) ∧ Ext w w' := by
 refine aj 16 func249 rfl rfl rfl rfl ?_
 intro _ hret
 refine aU ?_
 refine al rfl (fun Vl => ?_) (fun Vl => ?_)
 ·refine aU ?_
  refine hret rfl ?_
  exact ⟨by rw [show Wire.iE n = 1 from by unfold Wire.iE; rw [if_pos Om]]; rfl, Ext.refl _⟩
 ·refine aU ?_
  refine al rfl (fun Vm => ?_) (fun Vm => ?_)
  ·refine aU ?_
   refine hret rfl ?_
   exact ⟨by rw [show Wire.iE n = 2 from by unfold Wire.iE; rw [if_neg Om, if_pos Om]]; rfl, Ext.refl _⟩
  ·refine aU ?_
   refine hret rfl ?_
   exact ⟨by rw [show Wire.iE n = 4 from by unfold Wire.iE; rw [if_neg Om, if_neg Om]]; rfl, Ext.refl _⟩
theorem eZ (A : Oa) (n c s x : Nat) (xs : Lb) (w : World) (HA : Bs w A n xs) (hn : n ≤ 70368744177664) (hs : s = 1 ∨ s = 2 ∨ s = 4 ∨ s = 8) (hx : x < 18446744073709551616) :
  Ct 131 #[.slice A n c, .int .i64 (s : Int), .int .u64 (x : Int)] w fun e w' => ∃ A' c', e = .returned (.slice A' (n + s) c') ∧ Row w' w.heap.size 5 A' (n + s) c' ((xs ++ Wire.be s x).map bv) ∧ Ext w w' := by
 have Vo : 1 ≤ s ∧ s ≤ 8 := by omega
 refine aj 29 func131 rfl rfl rfl rfl ?_
 intro _ hret
 refine au 8 ?_
 refine aL func181 rfl (iD A n c xs _ HA Om) ?_
 rintro e w1 ⟨A1, c1, rfl, O1, ex⟩
 have R1 : Row w1 w.heap.size 5 A1 n c1 (xs.map bv) := O1; have E := ex
 refine au 8 ?_
 refine aL func192 rfl (Gu s _) ?_
 rintro e _ ⟨rfl, ex⟩
 refine au 1 ?_
 have R2 := R1.ext ex; have E2 := E.ext ex; rw [decide_eq_true hs]
 refine ak (kz rfl) ?_
 refine au 2 ?_
 refine cm rfl rfl ?_
 refine au 6 ?_
 refine ak (eK rfl rfl (br Om Om)) ?_
 refine au 4 ?_
 refine aF (fun n' L wr => ∃ (j c5 : Nat) (A5 : Oa), L = [(0, .slice A5 (n + j) c5), (2, .int .u64 (x : Int)), (7, .int .i64 ((s : Int) - 1 - j))] ∧ n' = s - j ∧ (j ≤ s ∧ Ext w wr ∧ Row wr w.heap.size 5 A5 (n + j) c5 ((xs ++ Wire.be j (x / 256 ^ (s - j))).map bv))) _ _ ⟨0, c1, A1, rfl, rfl, by omega, E2, by rw [Wire.be, List.append_nil]; exact R2⟩ Ls ?_
 rintro _ n' L wr ⟨j, c5, A5, rfl, rfl, _, F, R⟩ Vl
 refine au 4 ?_
 refine ak (qu rfl rfl) ?_
 refine au 2 ?_
 refine al rfl (fun Vm => ?_) (fun Vm => ?_)
 ·refine au 8 ?_
  refine ak (cz rfl rfl (br Om Om)) ?_
  refine ak (bY rfl rfl Om (yJ x (s - 1 - j) Om _ Om)) ?_
  refine ak (bg rfl Tn.u Tn.u (Fz _)) ?_
  refine af (aB (z := .int .u8 0) Tn.u Kr rfl rfl rfl rfl rfl) rfl ?_
  rintro _ _ ⟨_, rfl, B5, _, ex⟩
  have R5 := R.ext ex; have F5 := F.ext ex; have Vn := F5.size
  refine af (aQ rfl rfl bF R5 (At.fT (vs := [UInt8.ofNat (x / 256 ^ (s - 1 - j))].map bv) (B5.congr (by rfl))) rfl aH Om Om Vn) rfl ?_
  rintro _ _ ⟨A6, c6, rfl, R6, be, _, _⟩
  have F6 := F5.trans be; have R7 := R6.cat; rw [List.append_assoc, show Wire.be j (x / 256 ^ (s - j)) ++ [UInt8.ofNat (x / 256 ^ (s - 1 - j))] = Wire.be (j + 1) (x / 256 ^ (s - (j + 1))) from by rw [Wire.be, Nat.div_div_eq_div_mul, ← Nat.pow_succ, show (s - (j + 1)).succ = s - j from by omega, show s - (j + 1) = s - 1 - j from by omega]] at R7
  refine au 6 ?_
  refine ak (eK rfl rfl (br Om Om)) ?_
  refine au 2 ?_
  refine ae ?_
  refine Vl _ _ ⟨j + 1, c6, A6, rfl, rfl, by omega, F6, R7⟩ Om Ls
 ·refine au 12 ?_
  refine hret rfl ?_
  obtain rfl : j = s := by omega
  rw [Nat.sub_self, Nat.pow_zero, Nat.div_one] at R
  exact ⟨A5, c5, rfl, R, F⟩
theorem xd (A : Oa) (n c x : Nat) (xs : Lb) (w : World) (HA : Bs w A n xs) (hn : n ≤ 70368744177664) (hx : x < 1073741824) :
  Ct 218 #[.slice A n c, .int .i64 (x : Int)] w fun e w' => ∃ A' c', e = .returned (.slice A' (n + Wire.iE x) c') ∧ Row w' w.heap.size 5 A' (n + Wire.iE x) c' ((xs ++ Wire.len x).map bv) ∧ Ext w w' := by
 have hl := Wire.bu x
 obtain ⟨s, hs⟩ : ∃ s, s = Wire.iE x := ⟨_, rfl⟩
 have hbe := Wire.JV x hx
 rw [← hs] at hl hbe ⊢
 have Vl : s = 1 ∨ s = 2 ∨ s = 4 := by rw [hs]; unfold Wire.iE; split <;> (try split) <;> simp
 have hor : ((s / 2 * 2 ^ (8 * s - 2) : Nat) ||| x) = s / 2 * 2 ^ (8 * s - 2) + x := by
  have hxl : x < 2 ^ (8 * s - 2) := by
   rw [hs]; unfold Wire.iE
   split
   ·omega
   ·split <;> omega
  rw [Nat.mul_comm, Nat.two_pow_add_eq_or_of_lt hxl]
 have hlt : s / 2 * 2 ^ (8 * s - 2) + x < 18446744073709551616 := by rcases Vl with h | h | h <;> rw [h] <;> omega
 refine aj 27 func218 rfl rfl rfl rfl ?_
 intro _ hret
 refine aU ?_
 refine aL func249 rfl (ud x _ hx) ?_
 rintro e _ ⟨rfl, ex⟩
 replace HA := HA.ext ex
 have E := ex; rw [← hs]
 refine au 17 ?_
 refine ak (cY rfl rfl Om (IntWalk.i64_quo _ _ Om)) ?_
 refine au 12 ?_
 refine ak (eP rfl rfl Om (show IntKind.u64.wrap ((s : Int) / 2 * 2 ^ min ((8 : Int) * s - 2).toNat IntKind.u64.bits) = ((s / 2 * 2 ^ (8 * s - 2) : Nat) : Int) by rcases Vl with h | h | h <;> rw [h] <;> rfl)) ?_
 refine au 2 ?_
 refine ak (jk rfl rfl (by rw [(cf Om Om).2.1, hor])) ?_
 refine aL func131 rfl (eZ A n c s _ xs _ HA hn Om hlt) ?_
 rintro e _ ⟨A2, c2, rfl, R2, ex⟩
 have E2 := E.ext ex; rw [hbe] at R2
 refine aU ?_
 refine hret rfl ?_
 exact ⟨A2, c2, rfl, R2.lower E.size, E2⟩
theorem di (A B : Oa) (n c m d : Nat) (xs ys : Lb) (w : World) (HA : Bs w A n xs) (hn : n ≤ 35184372088832) (HB : Bs w B m ys) (hm : m < 1073741824) :
  Ct 162 #[.slice A n c, .slice B m d] w fun e w' => ∃ A' k c', e = .returned (.slice A' k c') ∧ Row w' w.heap.size 5 A' k c' ((xs ++ Wire.vec ys).map bv) ∧ k = n + (Wire.iE m + m) ∧ Ext w w' := by
 have hl := Wire.bu m
 refine aj 11 func162 rfl rfl rfl rfl ?_
 intro _ hret
 refine aU ?_
 refine aL func218 rfl (xd A n c m xs _ HA Om hm) ?_
 rintro e _ ⟨_, _, rfl, R1, ex⟩
 replace HB := HB.ext ex
 have E := ex; have Vl := ex.size
 refine aU ?_
 refine af (aQ rfl rfl bF R1 HB.2 (by rw [List.length_map, HB.1]) aH Om Om Vl) rfl ?_
 rintro _ _ ⟨A2, c2, rfl, R2, be, _, hl⟩
 have R3 := R2.cat; have E2 := E.trans be
 refine aU ?_
 refine hret rfl ?_
 exact ⟨A2, _, c2, rfl, by rw [Wire.vec, HB.1, ← List.append_assoc]; exact R3, by omega, E2⟩
theorem gz (s x : Nat) (w : World) (hs : s ≤ 8) (hx : x < 18446744073709551616) :
  Ct 56 #[.int .i64 (s : Int), .int .u64 (x : Int)] w fun e w' => ∃ A' c', e = .returned (.slice A' s c') ∧ Row w' w.heap.size 5 A' s c' ((Wire.be s x).map bv) ∧ Ext w w' := by
 refine aj 21 func56 rfl rfl rfl rfl ?_
 intro _ hret
 refine aU ?_
 refine aF (fun n' L wr => ∃ (j m q c5 : Nat) (A5 : Oa), L = [(0, .int .i64 (s : Int)), (1, .int .u64 (q : Int)), (5, .slice A5 m c5), (6, .int .i64 (j : Int))] ∧ n' = s - j ∧ (j ≤ s ∧ m = j ∧ q = x / 256 ^ j ∧ Ext w wr ∧ Row wr w.heap.size 5 A5 m c5 ((Wire.be j x).map bv))) _ _ ⟨0, 0, x, 0, none, rfl, rfl, by omega, rfl, by simp, Ext.refl _, Row.empty _ _ _⟩ Ls ?_
 rintro _ n' L wr ⟨j, m, q, c5, A5, rfl, rfl, _, hmj, hq, F, R⟩ Vl
 refine aU ?_
 refine al rfl (fun Vm => ?_) (fun Vm => ?_)
 ·have hsF := F.size
  have hxj : q < 18446744073709551616 := by rw [hq]; exact Nat.lt_of_le_of_lt (Nat.div_le_self _ _) hx
  have Vn : q / 256 = x / 256 ^ (j + 1) := by rw [hq, Nat.div_div_eq_div_mul, ← Nat.pow_succ]
  refine au 7 ?_
  refine ak (cy rfl rfl Om (IntWalk.rem_in _ _ Om)) ?_
  refine ak (bg rfl Tn.u Tn.u (show IntKind.u8.wrap _ = ((UInt8.ofNat q).toNat : Int) by rw [IntKind.wrap_u8', UInt8.toNat_ofNat']; omega)) ?_
  refine af (aB (z := .int .u8 0) Tn.u Kr rfl rfl rfl rfl rfl) rfl ?_
  rintro _ w5 ⟨g5, rfl, B5, Vo, ex⟩
  have R5 : Row w5 wr.heap.size 5 (some ⟨g5, 0, none⟩) 1 1 ([UInt8.ofNat q].map bv) := Row.new B5 Vo rfl (by unfold maxLen; omega); have F5 := F.ext ex; have R1 := R.ext ex
  refine aU ?_
  refine af (aQ rfl rfl bF R5 (Row.at R1) (by have := R1.len; exact this) aH Om Om ex.size) rfl ?_
  rintro _ _ ⟨A6, c6, rfl, R6, be, _, _⟩
  have F6 := F5.trans (be.mono hsF); have R7 := R6.cat; rw [hq, ← Wire.uq] at R7; replace R7 := R7.lower hsF
  refine au 5 ?_
  refine ak (cY rfl rfl Om (IntWalk.u64_quo _ _ Om)) ?_
  refine au 9 ?_
  refine ae ?_
  refine Vl _ _ ⟨j + 1, 1 + m, q / 256, c6, A6, rfl, rfl, by omega, by omega, Vn, F6, R7⟩ Om Ls
 ·refine aU ?_
  refine hret rfl ?_
  obtain rfl : j = s := by omega
  exact ⟨A5, c5, by rw [hmj], by rw [← hmj] at R ⊢; exact R, F⟩
theorem km {z : Int} {x : Nat} (h : z % 256 = (x : Int) % 256) : IntKind.u8.wrap z = ((UInt8.ofNat x).toNat : Int) := by
 rw [IntKind.wrap_u8', UInt8.toNat_ofNat']; omega
theorem wS (x : Nat) (w : World) (hx : x < 1073741824) :
  Ct 124 #[.int .i64 (x : Int)] w fun e w' => ∃ A' c', e = .returned (.slice A' (Wire.iE x) c') ∧ Row w' w.heap.size 5 A' (Wire.iE x) c' ((Wire.len x).map bv) ∧ Ext w w' := by
 refine aj 34 func124 rfl rfl rfl rfl ?_
 intro _ hret
 refine aU ?_
 refine al rfl (fun Vm => ?_) (fun Vm => ?_)
 ·refine au 3 ?_
  refine ak (bg rfl Tn.u Tn.u (km (x := x) Om)) ?_
  refine af (aB (z := .int .u8 0) Tn.u Kr rfl rfl rfl rfl rfl) rfl ?_
  rintro _ w5 ⟨g5, rfl, B5, Vl, ex⟩
  refine aU ?_
  refine hret rfl ?_
  exact ⟨_, 1, by rw [show Wire.iE x = 1 from by unfold Wire.iE; rw [if_pos Om]], by rw [show Wire.iE x = 1 from by unfold Wire.iE; rw [if_pos Om], show Wire.len x = [UInt8.ofNat x] from by unfold Wire.len; rw [if_pos Om]]; exact Row.new B5 Vl rfl (by unfold maxLen; omega), ex⟩
 ·refine aU ?_
  refine al rfl (fun Vn => ?_) (fun Vn => ?_)
  ·refine au 3 ?_
   refine ak (cY rfl rfl Om (IntWalk.i64_quo _ _ Om)) ?_
   refine au 1 ?_
   refine ak (bg rfl Tn.u Tn.u (km (x := 64 + x / 256) Om)) ?_
   refine au 1 ?_
   refine ak (cy rfl rfl Om (IntWalk.rem_in _ _ Om)) ?_
   refine ak (bg rfl Tn.u Tn.u (km (x := x % 256) Om)) ?_
   refine af (aB (z := .int .u8 0) Tn.u Kr rfl rfl rfl rfl rfl) rfl ?_
   rintro _ w5 ⟨g5, rfl, B5, Vl, ex⟩
   refine aU ?_
   refine hret rfl ?_
   exact ⟨_, 2, by rw [show Wire.iE x = 2 from by unfold Wire.iE; rw [if_neg Om, if_pos Om]], by rw [show Wire.iE x = 2 from by unfold Wire.iE; rw [if_neg Om, if_pos Om], show Wire.len x = [UInt8.ofNat (64 + x / 256), UInt8.ofNat (x % 256)] from by unfold Wire.len; rw [if_neg Om, if_pos Om]]; exact Row.new B5 Vl rfl (by unfold maxLen; omega), ex⟩
  ·refine au 5 ?_
   refine ak (cY rfl rfl Om (IntWalk.i64_quo _ _ Om)) ?_
   refine au 1 ?_
   refine ak (bg rfl Tn.u Tn.u (km (x := 128 + x / 16777216) Om)) ?_
   refine au 1 ?_
   refine ak (cY rfl rfl Om (IntWalk.i64_quo _ _ Om)) ?_
   refine ak (cy rfl rfl Om (IntWalk.rem_in _ _ Om)) ?_
   refine ak (bg rfl Tn.u Tn.u (km (x := x / 65536 % 256) Om)) ?_
   refine au 1 ?_
   refine ak (cY rfl rfl Om (IntWalk.i64_quo _ _ Om)) ?_
   refine ak (cy rfl rfl Om (IntWalk.rem_in _ _ Om)) ?_
   refine ak (bg rfl Tn.u Tn.u (km (x := x / 256 % 256) Om)) ?_
   refine au 1 ?_
   refine ak (cy rfl rfl Om (IntWalk.rem_in _ _ Om)) ?_
   refine ak (bg rfl Tn.u Tn.u (km (x := x % 256) Om)) ?_
   refine af (aB (z := .int .u8 0) Tn.u Kr rfl rfl rfl rfl rfl) rfl ?_
   rintro _ w5 ⟨g5, rfl, B5, Vl, ex⟩
   refine aU ?_
   refine hret rfl ?_
   exact ⟨_, 4, by rw [show Wire.iE x = 4 from by unfold Wire.iE; rw [if_neg Om, if_neg Om]], by rw [show Wire.iE x = 4 from by unfold Wire.iE; rw [if_neg Om, if_neg Om], show Wire.len x = [UInt8.ofNat (128 + x / 16777216), UInt8.ofNat (x / 65536 % 256), UInt8.ofNat (x / 256 % 256), UInt8.ofNat (x % 256)] from by unfold Wire.len; rw [if_neg Om, if_neg Om]]; exact Row.new B5 Vl rfl (by unfold maxLen; omega), ex⟩
theorem cB (B : Oa) (m d : Nat) (ys : Lb) (w : World) (HB : Bs w B m ys) (hm : m < 1073741824) :
  Ct 54 #[.slice B m d] w fun e w' => ∃ A' k c', e = .returned (.slice A' k c') ∧ Row w' w.heap.size 5 A' k c' ((Wire.vec ys).map bv) ∧ k = Wire.iE m + m ∧ Ext w w' := by
 have hl := Wire.bu m
 refine aj 8 func54 rfl rfl rfl rfl ?_
 intro _ hret
 refine aU ?_
 refine aL func124 rfl (wS m _ hm) ?_
 rintro e _ ⟨_, _, rfl, R1, ex⟩
 replace HB := HB.ext ex
 have E := ex; have Vl := ex.size
 refine aU ?_
 refine af (aQ rfl rfl bF R1 HB.2 (by rw [List.length_map, HB.1]) aH Om Om Vl) rfl ?_
 rintro _ _ ⟨A2, c2, rfl, R2, be, _, hl⟩
 have R3 := R2.cat; have E2 := E.trans be
 refine aU ?_
 refine hret rfl ?_
 exact ⟨A2, _, c2, rfl, by rw [Wire.vec, HB.1]; exact R3, rfl, E2⟩
theorem r9 (s : ByteArray) : ((⟨#[77, 76, 83, 32, 49, 46, 48, 32]⟩ : ByteArray) ++ s).data.toList = Kdf.AZ ++ s.data.toList := by
 simp [Kdf.AZ]
theorem dB (s : ByteArray) : ((⟨#[77, 76, 83, 32, 49, 46, 48, 32]⟩ : ByteArray) ++ s).size = 8 + s.size := by
 rw [ByteArray.size_append]; rfl
end
section
section
open Go.RowKit
section
variable {P : Program} {w : World} {ty : TypeId}
end
end
section
open Go.RowKit
theorem zl {P : Program} {L : List (Nat × Value)} {w : World} {t ty e : TypeId} {x y : Operand} {b off n j s : Nat} {k : IntKind} {a : Int} (hx : ev L x = some (.pointer (some ⟨b, off, none⟩))) (hy : ev L y = some (.int k a)) (hu : P.underlying t = some (.array n e)) (hs : (P.info? e).map (·.size) = some s) (ha : a = (j : Int)) (hj : j < n) :
  Y P L w (.slice t x (some y) none none) ty (.slice (some ⟨b, off + j * s, none⟩) (n - j) (n - j)) := fun ρ hρ w' _ _ _ _ _ => by
 subst ha
 have hb : ((Instr.sliceBounds false n n (some (.int k j)) none none).run P w') = .ok (j, n, n) w' := by
  have := Nat.le_of_lt hj
  simp [Instr.sliceBounds, Instr.sliceBound, asIntOf, this]
 have hne : ¬ (n = j) := by omega
 simp [execOp, hρ _ _ hx, hρ _ _ hy, Instr.sliceAt, Instr.sureAddr, run_underlying hu, hb, bo hs, hne, Addr.add_plain]
theorem zQ {P : Program} {L : List (Nat × Value)} {w : World} {t ty e : TypeId} {x y : Operand} {A : Addr} {n j s : Nat} {k : IntKind} {a : Int} (hx : ev L x = some (.pointer (some A))) (hy : ev L y = some (.int k a)) (hu : P.underlying t = some (.array n e)) (hs : (P.info? e).map (·.size) = some s) (ha : a = (j : Int)) (hj : j ≤ n) :
  Y P L w (.slice t x none (some y) none) ty (.slice (some A) j n) := fun ρ hρ w' _ _ _ _ _ => by
 subst ha
 have hb : ((Instr.sliceBounds false n n none (some (.int k j)) none).run P w') = .ok (0, j, n) w' := by
  simp [Instr.sliceBounds, Instr.sliceBound, asIntOf, hj]
 simp [execOp, hρ _ _ hx, hρ _ _ hy, Instr.sliceAt, Instr.sureAddr, run_underlying hu, hb, bo hs, Addr.add]
end
end
section
section
namespace Lng
def cv (x n : Nat) : Nat := x / 2 ^ n + x % 2 ^ n * 2 ^ (64 - n)
def s0 (x : Nat) : Nat := (cv x 1 ^^^ cv x 8) ^^^ (x / 128)
def s1 (x : Nat) : Nat := (cv x 19 ^^^ cv x 61) ^^^ (x / 64)
def S0 (x : Nat) : Nat := (cv x 28 ^^^ cv x 34) ^^^ cv x 39
def S1 (x : Nat) : Nat := (cv x 14 ^^^ cv x 18) ^^^ cv x 41
def ch (e f g : Nat) : Nat := (e &&& f) ^^^ ((18446744073709551615 - e) &&& g)
def zP (a b c : Nat) : Nat := ((a &&& b) ^^^ (a &&& c)) ^^^ (b &&& c)
def pre (l : List UInt8) (t : Nat) : Nat → Nat
 | 0 => 0
 | i + 1 => 256 * pre l t i + (l.getD (8 * t + i) 0).toNat
def Nz (l : List UInt8) (t : Nat) : Nat := pre l t 8
def gU (l : List UInt8) : Nat → List Nat
 | 0 => []
 | k + 1 => gU l k ++ [Nz l k]
def gF (p : List Nat) (k : Nat) : Nat := (s1 (p.getD (k + 14) 0) + p.getD (k + 9) 0 + s0 (p.getD (k + 1) 0) + p.getD k 0) % 18446744073709551616
def ext (m : List Nat) : Nat → List Nat
 | 0 => m
 | k + 1 => ext m k ++ [gF (ext m k) k]
def words (l : List UInt8) : List Nat := ext (gU l 16) 64
structure S8 where
 (a b c d e f g h : Nat)
def S8.list (s : S8) : List Nat := [s.a, s.b, s.c, s.d, s.e, s.f, s.g, s.h]
def S8.ok (s : S8) : Prop := s.a < 18446744073709551616 ∧ s.b < 18446744073709551616 ∧ s.c < 18446744073709551616 ∧ s.d < 18446744073709551616 ∧ s.e < 18446744073709551616 ∧ s.f < 18446744073709551616 ∧ s.g < 18446744073709551616 ∧ s.h < 18446744073709551616
def K : List Nat := [
 0x428a2f98d728ae22, 0x7137449123ef65cd, 0xb5c0fbcfec4d3b2f, 0xe9b5dba58189dbbc,
 0x3956c25bf348b538, 0x59f111f1b605d019, 0x923f82a4af194f9b, 0xab1c5ed5da6d8118,
 0xd807aa98a3030242, 0x12835b0145706fbe, 0x243185be4ee4b28c, 0x550c7dc3d5ffb4e2,
 0x72be5d74f27b896f, 0x80deb1fe3b1696b1, 0x9bdc06a725c71235, 0xc19bf174cf692694,
 0xe49b69c19ef14ad2, 0xefbe4786384f25e3, 0x0fc19dc68b8cd5b5, 0x240ca1cc77ac9c65,
 0x2de92c6f592b0275, 0x4a7484aa6ea6e483, 0x5cb0a9dcbd41fbd4, 0x76f988da831153b5,
 0x983e5152ee66dfab, 0xa831c66d2db43210, 0xb00327c898fb213f, 0xbf597fc7beef0ee4,
 0xc6e00bf33da88fc2, 0xd5a79147930aa725, 0x06ca6351e003826f, 0x142929670a0e6e70,
 0x27b70a8546d22ffc, 0x2e1b21385c26c926, 0x4d2c6dfc5ac42aed, 0x53380d139d95b3df,
 0x650a73548baf63de, 0x766a0abb3c77b2a8, 0x81c2c92e47edaee6, 0x92722c851482353b,
 0xa2bfe8a14cf10364, 0xa81a664bbc423001, 0xc24b8b70d0f89791, 0xc76c51a30654be30,
 0xd192e819d6ef5218, 0xd69906245565a910, 0xf40e35855771202a, 0x106aa07032bbd1b8,
 0x19a4c116b8d2d0c8, 0x1e376c085141ab53, 0x2748774cdf8eeb99, 0x34b0bcb5e19b48a8,
 0x391c0cb3c5c95a63, 0x4ed8aa4ae3418acb, 0x5b9cca4f7763e373, 0x682e6ff3d6b2b8a3,
 0x748f82ee5defb2fc, 0x78a5636f43172f60, 0x84c87814a1f0ab72, 0x8cc702081a6439ec,
 0x90befffa23631e28, 0xa4506cebde82bde9, 0xbef9a3f7b2c67915, 0xc67178f2e372532b,
 0xca273eceea26619c, 0xd186b8c721c0c207, 0xeada7dd6cde0eb1e, 0xf57d4f7fee6ed178,
 0x06f067aa72176fba, 0x0a637dc5a2c898a6, 0x113f9804bef90dae, 0x1b710b35131c471b,
 0x28db77f523047d84, 0x32caab7b40c72493, 0x3c9ebe0a15c9bebc, 0x431d67c49c100d4c,
 0x4cc5d4becb3e42b6, 0x597f299cfc657e2a, 0x5fcb6fab3ad6faec, 0x6c44198c4a475817]
def H0 : List Nat := [
 0x6a09e667f3bcc908, 0xbb67ae8584caa73b, 0x3c6ef372fe94f82b, 0xa54ff53a5f1d36f1,
 0x510e527fade682d1, 0x9b05688c2b3e6c1f, 0x1f83d9abfb41bd6b, 0x5be0cd19137e2179]
def IV : S8 := ⟨
 0x6a09e667f3bcc908, 0xbb67ae8584caa73b, 0x3c6ef372fe94f82b, 0xa54ff53a5f1d36f1,
 0x510e527fade682d1, 0x9b05688c2b3e6c1f, 0x1f83d9abfb41bd6b, 0x5be0cd19137e2179⟩
def T1 (s : S8) (k w : Nat) : Nat := s.h + S1 s.e + ch s.e s.f s.g + k + w
def T2 (s : S8) : Nat := S0 s.a + zP s.a s.b s.c
def vp (s : S8) (k w : Nat) : S8 :=
 ⟨(T1 s k w + T2 s) % 18446744073709551616, s.a, s.b, s.c, (s.d + T1 s k w) % 18446744073709551616, s.e, s.f, s.g⟩
def rounds (w : List Nat) (s : S8) : Nat → S8
 | 0 => s
 | t + 1 => vp (rounds w s t) (K.getD t 0) (w.getD t 0)
def S8.add (s x : S8) : S8 := ⟨(s.a + x.a) % 18446744073709551616, (s.b + x.b) % 18446744073709551616, (s.c + x.c) % 18446744073709551616, (s.d + x.d) % 18446744073709551616,
 (s.e + x.e) % 18446744073709551616, (s.f + x.f) % 18446744073709551616, (s.g + x.g) % 18446744073709551616, (s.h + x.h) % 18446744073709551616⟩
def step (s : S8) (b : List UInt8) : S8 := s.add (rounds (words b) s 80)
def iR (n : Nat) : List UInt8 := [UInt8.ofNat (n / 72057594037927936), UInt8.ofNat (n / 281474976710656), UInt8.ofNat (n / 1099511627776), UInt8.ofNat (n / 4294967296),
 UInt8.ofNat (n / 16777216), UInt8.ofNat (n / 65536), UInt8.ofNat (n / 256), UInt8.ofNat n]
def bS (n : Nat) : Nat := (239 - n % 128) % 128
def pad (n : Nat) : List UInt8 := 128 :: (List.replicate (bS n) 0 ++ (List.replicate 8 0 ++ iR (n * 8)))
def blocks (s : S8) (l : List UInt8) : Nat → S8
 | 0 => s
 | k + 1 => step (blocks s l k) ((l.drop (128 * k)).take 128)
def S8.bytes (s : S8) : List UInt8 := s.list.flatMap iR
def sum (b : List UInt8) : List UInt8 := (blocks IV (b ++ pad b.length) ((b ++ pad b.length).length / 128)).bytes
theorem ba {x n : Nat} (hx : x < 18446744073709551616) (hn : n ≤ 64) : cv x n < 18446744073709551616 := by
 unfold cv
 have h1 : x / 2 ^ n < 2 ^ (64 - n) := by
  rw [Nat.div_lt_iff_lt_mul (Nat.two_pow_pos n), ← Nat.pow_add, Nat.sub_add_cancel hn]; exact hx
 have h2 : x % 2 ^ n < 2 ^ n := Nat.mod_lt _ (Nat.two_pow_pos n)
 have h3 : x % 2 ^ n * 2 ^ (64 - n) + 2 ^ (64 - n) ≤ 18446744073709551616 := by
  have : (x % 2 ^ n + 1) * 2 ^ (64 - n) ≤ 2 ^ n * 2 ^ (64 - n) := Nat.mul_le_mul_right _ h2
  rw [← Nat.pow_add, Nat.add_sub_cancel' hn, Nat.add_mul] at this
  omega
 omega
theorem fP {x y : Nat} (hx : x < 18446744073709551616) (hy : y < 18446744073709551616) : x ^^^ y < 18446744073709551616 := Nat.xor_lt_two_pow (n := 64) hx hy
theorem dW {x y : Nat} (hx : x < 18446744073709551616) : x &&& y < 18446744073709551616 := Nat.lt_of_le_of_lt Nat.and_le_left hx
theorem rN {x n : Nat} (hx : x < 18446744073709551616) (hn : n ≤ 64) : (x * 2 ^ (64 - n) % 18446744073709551616) ||| (x / 2 ^ n) = cv x n := by
 have hp : (18446744073709551616 : Nat) = 2 ^ n * 2 ^ (64 - n) := by rw [← Nat.pow_add, Nat.add_sub_cancel' hn]
 have h1 : x * 2 ^ (64 - n) % 18446744073709551616 = x % 2 ^ n * 2 ^ (64 - n) := by rw [hp, Nat.mul_mod_mul_right]
 have h2 : x / 2 ^ n < 2 ^ (64 - n) := by
  rw [Nat.div_lt_iff_lt_mul (Nat.two_pow_pos n), ← Nat.pow_add, Nat.sub_add_cancel hn]; exact hx
 rw [h1, nat_join (64 - n) _ _ (by simp) h2]
 unfold cv
 omega
theorem sI (l : List UInt8) (t i : Nat) : pre l t i < 256 ^ i := by
  induction i with
  | zero => simp [pre]
  | succ i ih =>
    have := (l.getD (8 * t + i) 0).toNat_lt
    simp only [pre, Nat.pow_succ]
    omega
theorem JP (l : List UInt8) (t : Nat) : Nz l t < 18446744073709551616 := sI l t 8
theorem dM (l : List UInt8) (k : Nat) : (gU l k).length = k := by induction k with
 | zero => rfl
 | succ k ih => simp [gU, ih]
theorem eu (m : List Nat) (k : Nat) : (ext m k).length = m.length + k := by induction k with
 | zero => rfl
 | succ k ih => simp [ext, ih]; omega
theorem cn (l : List UInt8) : (words l).length = 80 := by simp [words, eu, dM]
theorem pR (l : List UInt8) (k : Nat) : ∀ x ∈ gU l k, x < 18446744073709551616 := by induction k with
  | zero => simp [gU]
  | succ k ih =>
    intro x hx
    simp only [gU, List.mem_append, List.mem_singleton] at hx
    rcases hx with hx | rfl
    · exact ih x hx
    · exact JP l k
theorem oU (m : List Nat) (hm : ∀ x ∈ m, x < 18446744073709551616) (k : Nat) : ∀ x ∈ ext m k, x < 18446744073709551616 := by induction k with
  | zero => exact hm
  | succ k ih =>
    intro x hx
    simp only [ext, List.mem_append, List.mem_singleton] at hx
    rcases hx with hx | rfl
    · exact ih x hx
    · unfold gF; omega
theorem fB {m : List Nat} (hm : ∀ x ∈ m, x < 18446744073709551616) (k : Nat) : m.getD k 0 < 18446744073709551616 := by
 rw [List.getD_eq_getElem?_getD]
 rcases h : m[k]? with _ | x
 ·simp
 ·simpa [h] using hm x (List.mem_of_getElem? h)
theorem wE {s : S8} (h : s.ok) (k w : Nat) : (vp s k w).ok := by
 obtain ⟨h1, h2, h3, h4, h5, h6, h7, h8⟩ := h
 exact ⟨Nat.mod_lt _ (by omega), h1, h2, h3, Nat.mod_lt _ (by omega), h5, h6, h7⟩
theorem fZ (w : List Nat) {s : S8} (h : s.ok) (t : Nat) : (rounds w s t).ok := by induction t with
 | zero => exact h
 | succ t ih => exact wE ih _ _
theorem vr (s x : S8) : (s.add x).ok := ⟨Nat.mod_lt _ (by omega), Nat.mod_lt _ (by omega), Nat.mod_lt _ (by omega), Nat.mod_lt _ (by omega), Nat.mod_lt _ (by omega), Nat.mod_lt _ (by omega), Nat.mod_lt _ (by omega), Nat.mod_lt _ (by omega)⟩
theorem rR (s : S8) (b : List UInt8) : (step s b).ok := vr _ _
theorem rE : IV.ok := by unfold S8.ok IV; decide
theorem cG (n : Nat) : (pad n).length = 17 + bS n := by simp [pad, iR]; omega
theorem iP (n : Nat) : (n + (pad n).length) % 128 = 0 := by rw [cG]; unfold bS; omega
theorem jb (s : S8) : s.bytes.length = 64 := rfl
theorem bM (b : List UInt8) : (sum b).length = 64 := rfl
def eB (l m : List Nat) (k : Nat) : List Nat := (List.zipWith (fun x y => (x + y) % 18446744073709551616) l m).take k ++ l.drop k
theorem jJ (l m : List Nat) : eB l m 0 = l := by simp [eB]
theorem jA {l m : List Nat} (h : l.length = m.length) {k : Nat} (hk : k ≤ l.length) : (eB l m k).length = l.length := by
 simp [eB, ← h]; omega
theorem lQ {l m : List Nat} (h : l.length = m.length) {k : Nat} (hk : k < l.length) : (eB l m k).getD k 0 = l.getD k 0 := by
 have e : ((List.zipWith (fun x y => (x + y) % 18446744073709551616) l m).take k).length = k := by simp [← h]; omega
 simp only [eB, List.getD_eq_getElem?_getD]
 rw [List.getElem?_append_right (by omega), e, Nat.sub_self, List.getElem?_drop, Nat.add_zero]
theorem mo {l m : List Nat} (h : l.length = m.length) {k : Nat} (hk : k < l.length) : (eB l m k).set k ((l.getD k 0 + m.getD k 0) % 18446744073709551616) = eB l m (k + 1) := by
 have e : ((List.zipWith (fun x y => (x + y) % 18446744073709551616) l m).take k).length = k := by simp [← h]; omega
 have hz : k < (List.zipWith (fun x y => (x + y) % 18446744073709551616) l m).length := by simp [← h]; omega
 simp only [eB]
 rw [List.set_append_right _ _ (by omega), e, Nat.sub_self, List.take_succ_eq_append_getElem hz, List.drop_eq_getElem_cons hk]
 have h1 : l.getD k 0 = l[k] := by simp [hk]
 have h2 : m.getD k 0 = m[k]'(by omega) := by simp [show k < m.length by omega]
 rw [h1, h2]
 simp
 rw [List.drop_eq_getElem_cons hk]
 rfl
theorem po (s x : S8) : (s.add x).list = eB s.list x.list 8 := rfl
end Lng
end
section
namespace Lng
end Lng
end
section
namespace Lng
def wt (l : List UInt8) (t : Nat) : List Nat := ext (gU l (min t 16)) (t - 16)
theorem rV {l : List UInt8} {t : Nat} (h : 16 ≤ t) : wt l (t + 1) = wt l t ++ [gF (wt l t) (t - 16)] := by
 unfold wt
 rw [show min (t + 1) 16 = 16 from by omega, show min t 16 = 16 from by omega, show t + 1 - 16 = (t - 16) + 1 from by omega]
 rfl
theorem oF (l : List UInt8) : wt l 80 = words l := rfl
theorem zo (l : List UInt8) (t : Nat) : (wt l t).length = t := by unfold wt; rw [eu, dM]; omega
theorem Ce (l : List UInt8) (t : Nat) : ∀ x ∈ wt l t, x < 18446744073709551616 := oU _ (pR l _) _
end Lng
end
end
section
open Go.RowKit
def Ns (k : IntKind) (w : World) (A : Oa) (n : Nat) (xs : List Nat) : Prop := xs.length = n ∧ At w A (xs.map (iv k))
section
variable {k : IntKind} {w w' : World} {A : Oa} {n : Nat} {xs : List Nat}
theorem Ns.get (h : Ns k w A n xs) {i : Nat} (hi : i < n) : ∃ b off x, A = some ⟨b, off, none⟩ ∧ Hid (x = xs.getD i 0) ∧ b < w.heap.size ∧ w.cell? ⟨b, off + i, none⟩ = some (.int k (x : Int)) := by
 have hl : i < xs.length := by rw [h.1]; exact hi
 obtain ⟨b, off, e, hb, hc⟩ := h.2.get (k := i) (by simpa using hl)
 exact ⟨b, off, _, e, rfl, hb, by simpa [iv, hl] using hc⟩
theorem Ns.below (h : Ns k w A n xs) (hb : Below w.heap.size w w') : Ns k w' A n xs := ⟨h.1, h.2.below hb⟩
theorem Ns.grown {g : Nat} (h : Ns k w A n xs) (hg : w.grownBy w' (some g)) (hne : ∀ b off, A = some ⟨b, off, none⟩ → b ≠ g) : Ns k w' A n xs := by
 refine ⟨h.1, ?_⟩
 rcases h.2 with h0 | ⟨b, off, hA, hc⟩
 ·exact .inl h0
 ·exact .inr ⟨b, off, hA, fun j u hu => hg.cell (hc j u hu) (by simpa using hne b off hA)⟩
end
section
variable {w w' : World} {base n c : Nat} {A : Oa} {xs ys : List Nat}
end
end
section
section
open Go.RowKit
attribute [local irreducible] Y Ef WL WC WK WQ WM cx
section
variable {w w' : World} {A : Oa} {n v : Nat} {xs : List Nat} {k : IntKind}
theorem Ns.ext (h : Ns k w A n xs) (E : Ext w w') : Ns k w' A n xs := h.below E
theorem Ns.wk {w0 : World} (h : Ns k w0 A n xs) (E : Ext w0 w) : Ns k w A n xs := h.below E
theorem Ns.kD {base c : Nat} {e : TypeId} (h : Row w base e A n c (xs.map (iv k))) : Ns k w A n xs := ⟨by have := h.len; simpa using this, Row.at h⟩
theorem Row.N8 {base c : Nat} {e : TypeId} {ys : List Nat} (h : Row w base e A n c (xs.map (iv k) ++ ys.map (iv k))) : Row w base e A n c ((xs ++ ys).map (iv k)) := by rw [List.map_append]; exact h
theorem Ns.fT {g : Nat} {t : TypeId} (h : ao w g t (aK k xs)) (hn : xs.length = n) : Ns k w (some ⟨g, 0, none⟩) n xs :=
 ⟨hn, At.fT (vs := xs.map (iv k)) h⟩
theorem Ns.cell {i : Nat} (h : Ns k w A n xs) (hi : i < n) : ∃ b off x, A = some ⟨b, off, none⟩ ∧ Hid (x = xs.getD i 0) ∧ w.cell? ⟨b, off + i, none⟩ = some (.int k (x : Int)) := by
 obtain ⟨b, off, x, e, hx, _, hc⟩ := h.get hi
 exact ⟨b, off, x, e, hx, hc⟩
end
theorem bk {a : Int} {n : Nat} (h : a = (n : Int)) (hn : n ≤ 9223372036854775807) : IntKind.i64.wrap a = (n : Int) := by
 subst h; exact br Om Om
end
section
open Go.RowKit
attribute [local irreducible] Y Ef WL WC WK WQ WM cx
theorem mC (n : Int) : IntKind.u64.wrap n = n % 18446744073709551616 := by simp [IntKind.wrap, IntKind.bits, IntKind.signed]
theorem Gh {a : Int} {n : Nat} (h : a = (n : Int)) : IntKind.u64.wrap a = ((n % 18446744073709551616 : Nat) : Int) := by
 subst h; rw [mC]; omega
end
end
section
open Go.RowKit
attribute [local irreducible] Y Ef WL WC WK WQ WM cx
theorem aE {a : Int} {n : Nat} (h : a = (n : Int)) (hn : n < 18446744073709551616) : IntKind.u64.wrap a = (n : Int) := by
 subst h; rw [mC]; omega
theorem BZ : vm Tryz.prog 177 38 8 := vm.of Tryz.underlying177 (z := .int .u64 0) Kr rfl
end
end Go.Proofs.YtgfafidlkldeaaaGreat
