/- A range over a function whose body is one region: a law for the small judgements. No conditions: plain lemmas of the model. slices.Chunk of bytes and its iterator: what it gives, where the length is so many times the size. What a loop over a function's pieces asks of its body: small laws. -/
import Derived.Test.YtgfafidlkldeaaaGreatSl
import Derived.Test.YtgfafidlkldeaaaGreatAu
import Derived.Test.YtgfafidlkldeaaaGreatVc7
import Derived.ArgAppend
import Derived.Laws.BitsAllLaws
import Derived.Test.YtgfafidlkldeaaaGreatVc
import Derived.RangeFuncNested
import Derived.RangeFuncBound
import Derived.RangeFuncCalls
import Derived.RangeFuncLeaves
set_option linter.unusedVariables false
set_option linter.unusedSimpArgs false
set_option maxHeartbeats 4000000
set_option maxRecDepth 4000
namespace Go.Proofs.YtgfafidlkldeaaaGreat
variable {YU after : Array Edge} {ops : Array Oper} {args cs lb : Array Value} {c : Code} {Q : Exit → Act → aa9 → Prop} {fn : Func} {f : FuncId} {a z : Int} {k k2 k3 : IntKind} {L : List (Nat × Value)} {m xs ys : List Nat} {l rest : List Oper} {B D b b1 b2 base g h i id j lp n s x : Nat} {N : Nd} {A : Oa} {y : Operand} {P : Program} {YV pos : String} {d : Tmp} {YX e t ty : TypeId} {u v : Value} {C W W' w w' w0 : aa9}
section
open Go.RowKit Tryz
attribute [local irreducible] Y Ef WL WC WK WQ WM cu
theorem Oy (x : Nat) : IntKind.u8.wrap (x : Int) = ((UInt8.ofNat x).toNat : Int) := by rw [IntKind.wrap_u8', UInt8.toNat_ofNat']; omega
theorem Jz (n j : Nat) (hj : j ≤ 7) (b : Int) (hb : b = 8 * j) : (n : Int) / 2 ^ (min b.toNat IntKind.u64.bits) = ((n / 256 ^ j : Nat) : Int) := by
 have e : min b.toNat IntKind.u64.bits = 8 * j := by have : IntKind.u64.bits = 64 := rfl;omega
 have h2 : (2 : Int) ^ (8 * j) = ((256 ^ j : Nat) : Int) := by rw [show (256 : Nat) = 2 ^ 8 from rfl, ← Nat.pow_mul, Int.natCast_pow]; rfl
 rw [e, h2];exact (Int.natCast_ediv _ _).symm
theorem EN (n : Nat) (w : aa9) : Ct 192 #[.int .i64 (n : Int)] w (ck w (.bool (decide (n = 1 ∨ n = 2 ∨ n = 4 ∨ n = 8)))) := by
 refine ai 17 func192 ?_;intro _ aa4;refine au 8 ?_;refine bL (ez rfl rfl) rfl (fun h1 => ?_) (fun h1 => ?_)
 ·refine aU ?_;exact aa4 rfl ⟨by rw [decide_eq_true Om], Ext.refl _⟩
 refine au 2 ?_;refine bN 5 rfl rfl (ez rfl rfl) rfl (fun h2 => ?_) (fun h2 => ?_)
 ·refine aU ?_;exact aa4 rfl ⟨by rw [decide_eq_true Om], Ext.refl _⟩
 refine au 3 ?_;refine bN 9 rfl rfl (ez rfl rfl) rfl (fun h3 => ?_) (fun h3 => ?_)
 ·refine aU ?_;exact aa4 rfl ⟨by rw [decide_eq_true Om], Ext.refl _⟩
 refine au 3 ?_;refine bN 13 rfl rfl (ez rfl rfl) rfl (fun h4 => ?_) (fun h4 => ?_)
 ·refine aU ?_;exact aa4 rfl ⟨by rw [decide_eq_true Om], Ext.refl _⟩
 refine aU ?_;exact aa4 rfl ⟨by rw [decide_eq_false Om], Ext.refl _⟩
theorem rR (n : Nat) (w : aa9) (h : n < 1073741824) : Ct 249 #[.int .i64 (n : Int)] w (ck w (.int .i64 (Wire.jL n : Nat))) := by
 refine ai 16 func249 ?_;intro _ aa4;refine aa1 (fun YU => ?_) (fun YU => ?_)
 ·refine aU ?_;exact aa4 rfl ⟨by rw [show Wire.jL n = 1 from by unfold Wire.jL; rw [if_pos Om]]; rfl, Ext.refl _⟩
 refine aa1 (fun YV => ?_) (fun YV => ?_)
 ·refine aU ?_;exact aa4 rfl ⟨by rw [show Wire.jL n = 2 from by unfold Wire.jL; rw [if_neg Om, if_pos Om]]; rfl, Ext.refl _⟩
 refine aU ?_;exact aa4 rfl ⟨by rw [show Wire.jL n = 4 from by unfold Wire.jL; rw [if_neg Om, if_neg Om]]; rfl, Ext.refl _⟩
theorem ij (A : Oa) (n c s x : Nat) (xs : Lb) (w : aa9) (HA : Bs w A n xs) (hn : n ≤ 70368744177664) (hs : s = 1 ∨ s = 2 ∨ s = 4 ∨ s = 8) (hx : x < 18446744073709551616) :
  Ct 131 #[.slice A n c, .int .i64 (s : Int), .int .u64 (x : Int)] w fun e w' => ∃ A' c', e = .returned (.slice A' (n + s) c') ∧ Row w' w.heap.size 5 A' (n + s) c' ((xs ++ Wire.be s x).map bv) ∧ Ext w w' := by
 have YX : 1 ≤ s ∧ s ≤ 8 := Om
 refine ai 29 func131 ?_;intro _ aa4;refine au 8 ?_;refine aB func181 rfl (kF A n c xs _ HA Om) ?_;rintro e w1 ⟨A1, c1, rfl, O1, ex⟩;have R1 : Row w1 w.heap.size 5 A1 n c1 (xs.map bv) := O1; have E := ex;refine au 8 ?_;refine aB func192 rfl (EN s _) ?_;rintro e _ ⟨rfl, ex⟩;refine au 1 ?_;have R2 := R1.ext ex; have E2 := E.ext ex; rw [decide_eq_true hs];refine ak (pY rfl) ?_;refine au 2 ?_;refine bm rfl rfl ?_;refine au 6 ?_;refine ak (fG rfl rfl (bj Om Om)) ?_;refine au 4 ?_;refine aE (fun n' L wr => ∃ (j c5 : Nat) (A5 : Oa), L = [(0, .slice A5 (n + j) c5), (2, .int .u64 (x : Int)), (7, .int .i64 ((s : Int) - 1 - j))] ∧ n' = s - j ∧ (j ≤ s ∧ Ext w wr ∧ Row wr w.heap.size 5 A5 (n + j) c5 ((xs ++ Wire.be j (x / 256 ^ (s - j))).map bv))) _ _ ⟨0, c1, A1, rfl, rfl, Om, E2, by rw [Wire.be, List.append_nil]; exact R2⟩ Ls ?_;rintro _ n' L wr ⟨j, c5, A5, rfl, rfl, _, F, R⟩ YU;refine au 4 ?_;refine ak (yI rfl rfl) ?_;refine au 2 ?_;refine al rfl (fun YV => ?_) (fun YV => ?_)
 ·refine au 8 ?_;refine ak (cS rfl rfl (bj Om Om)) ?_;refine ak (cn rfl rfl Om (Jz x (s - 1 - j) Om _ Om)) ?_;refine ak (bc rfl Tn.u Tn.u (Oy _)) ?_;refine af (aF (z := .int .u8 0) Tn.u Kr rfl rfl rfl rfl rfl) rfl ?_;rintro _ _ ⟨_, rfl, B5, _, ex⟩;have R5 := R.ext ex; have F5 := F.ext ex; have YW := F5.size;refine af (aT rfl rfl bV R5 (At.fA (vs := [UInt8.ofNat (x / 256 ^ (s - 1 - j))].map bv) (B5.congr (by rfl))) rfl aJ Om Om YW) rfl ?_;rintro _ _ ⟨A6, c6, rfl, R6, be, _, _⟩;have F6 := F5.trans be; have R7 := R6.cat; rw [List.append_assoc, show Wire.be j (x / 256 ^ (s - j)) ++ [UInt8.ofNat (x / 256 ^ (s - 1 - j))] = Wire.be (j + 1) (x / 256 ^ (s - (j + 1))) from by rw [Wire.be, Nat.div_div_eq_div_mul, ← Nat.pow_succ, show (s - (j + 1)).succ = s - j from Om, show s - (j + 1) = s - 1 - j from Om]] at R7;refine au 6 ?_;refine ak (fG rfl rfl (bj Om Om)) ?_;refine au 2 ?_;refine ae ?_;refine YU _ _ ⟨j + 1, c6, A6, rfl, rfl, Om, F6, R7⟩ Om Ls
 refine au 12 ?_;refine aa4 rfl ?_;obtain rfl : j = s := Om
 rw [Nat.sub_self, Nat.pow_zero, Nat.div_one] at R;exact ⟨A5, c5, rfl, R, F⟩
theorem DO (A : Oa) (n c x : Nat) (xs : Lb) (w : aa9) (HA : Bs w A n xs) (hn : n ≤ 70368744177664) (hx : x < 1073741824) :
  Ct 218 #[.slice A n c, .int .i64 (x : Int)] w fun e w' => ∃ A' c', e = .returned (.slice A' (n + Wire.jL x) c') ∧ Row w' w.heap.size 5 A' (n + Wire.jL x) c' ((xs ++ Wire.len x).map bv) ∧ Ext w w' := by
 have hl := Wire.bH x
 obtain ⟨s, hs⟩ : ∃ s, s = Wire.jL x := ⟨_, rfl⟩
 have hbe := Wire.T4 x hx;rw [← hs] at hl hbe ⊢;have YU : s = 1 ∨ s = 2 ∨ s = 4 := by rw [hs]; unfold Wire.jL; split <;> (try split) <;> simp
 have hor : ((s / 2 * 2 ^ (8 * s - 2) : Nat) ||| x) = s / 2 * 2 ^ (8 * s - 2) + x := by
  have hxl : x < 2 ^ (8 * s - 2) := by
   rw [hs]; unfold Wire.jL;split
   ·omega
   split <;> omega
  rw [Nat.mul_comm, Nat.two_pow_add_eq_or_of_lt hxl]
 have hlt : s / 2 * 2 ^ (8 * s - 2) + x < 18446744073709551616 := by rcases YU with h | h | h <;> rw [h] <;> omega
 refine ai 27 func218 ?_;intro _ aa4;refine aU ?_;refine aB func249 rfl (rR x _ hx) ?_;rintro e _ ⟨rfl, ex⟩;replace HA := HA.ext ex;have E := ex; rw [← hs];refine au 17 ?_;refine ak (dI rfl rfl Om (IntWalk.i64_quo _ _ Om)) ?_;refine au 12 ?_;refine ak (fX rfl rfl Om (show IntKind.u64.wrap ((s : Int) / 2 * 2 ^ min ((8 : Int) * s - 2).toNat IntKind.u64.bits) = ((s / 2 * 2 ^ (8 * s - 2) : Nat) : Int) by rcases YU with h | h | h <;> rw [h] <;> rfl)) ?_;refine au 2 ?_;refine ak (jZ rfl rfl (by rw [(cz Om Om).2.1, hor])) ?_;refine aB func131 rfl (ij A n c s _ xs _ HA hn Om hlt) ?_;rintro e _ ⟨A2, c2, rfl, R2, ex⟩;have E2 := E.ext ex; rw [hbe] at R2;refine aU ?_;exact aa4 rfl ⟨A2, c2, rfl, R2.lower E.size, E2⟩
theorem dS (A B : Oa) (n c m d : Nat) (xs ys : Lb) (w : aa9) (HA : Bs w A n xs) (hn : n ≤ 35184372088832) (HB : Bs w B m ys) (hm : m < 1073741824) :
  Ct 162 #[.slice A n c, .slice B m d] w fun e w' => ∃ A' k c', e = .returned (.slice A' k c') ∧ Row w' w.heap.size 5 A' k c' ((xs ++ Wire.vec ys).map bv) ∧ k = n + (Wire.jL m + m) ∧ Ext w w' := by
 have hl := Wire.bH m;refine ai 11 func162 ?_;intro _ aa4;refine aU ?_;refine aB func218 rfl (DO A n c m xs _ HA Om hm) ?_;rintro e _ ⟨_, _, rfl, R1, ex⟩;replace HB := HB.ext ex;have E := ex; have YU := ex.size;refine aU ?_;refine af (aT rfl rfl bV R1 HB.2 (by rw [List.length_map, HB.1]) aJ Om Om YU) rfl ?_;rintro _ _ ⟨A2, c2, rfl, R2, be, _, hl⟩;have R3 := R2.cat; have E2 := E.trans be;refine aU ?_;exact aa4 rfl ⟨A2, _, c2, rfl, by rw [Wire.vec, HB.1, ← List.append_assoc]; exact R3, Om, E2⟩
theorem kY (s x : Nat) (w : aa9) (hs : s ≤ 8) (hx : x < 18446744073709551616) :
  Ct 56 #[.int .i64 (s : Int), .int .u64 (x : Int)] w fun e w' => ∃ A' c', e = .returned (.slice A' s c') ∧ Row w' w.heap.size 5 A' s c' ((Wire.be s x).map bv) ∧ Ext w w' := by
 refine ai 21 func56 ?_;intro _ aa4;refine aU ?_;refine aE (fun n' L wr => ∃ (j m q c5 : Nat) (A5 : Oa), L = [(0, .int .i64 (s : Int)), (1, .int .u64 (q : Int)), (5, .slice A5 m c5), (6, .int .i64 (j : Int))] ∧ n' = s - j ∧ (j ≤ s ∧ m = j ∧ q = x / 256 ^ j ∧ Ext w wr ∧ Row wr w.heap.size 5 A5 m c5 ((Wire.be j x).map bv))) _ _ ⟨0, 0, x, 0, none, rfl, rfl, Om, rfl, by simp, Ext.refl _, Row.empty _ _ _⟩ Ls ?_;rintro _ n' L wr ⟨j, m, q, c5, A5, rfl, rfl, _, hmj, hq, F, R⟩ YU;refine aa1 (fun YV => ?_) (fun YV => ?_)
 ·have hsF := F.size;have hxj : q < 18446744073709551616 := by rw [hq]; exact Nat.lt_of_le_of_lt (Nat.div_le_self _ _) hx
  have YW : q / 256 = x / 256 ^ (j + 1) := by rw [hq, Nat.div_div_eq_div_mul, ← Nat.pow_succ]
  refine au 7 ?_;refine ak (cR rfl rfl Om (IntWalk.rem_in _ _ Om)) ?_;refine ak (bc rfl Tn.u Tn.u (show IntKind.u8.wrap _ = ((UInt8.ofNat q).toNat : Int) by rw [IntKind.wrap_u8', UInt8.toNat_ofNat']; omega)) ?_;refine af (aF (z := .int .u8 0) Tn.u Kr rfl rfl rfl rfl rfl) rfl ?_;rintro _ w5 ⟨g5, rfl, B5, YX, ex⟩;have R5 : Row w5 wr.heap.size 5 (cf g5) 1 1 ([UInt8.ofNat q].map bv) := Row.new B5 YX rfl (by unfold maxLen; omega); have F5 := F.ext ex; have R1 := R.ext ex;refine aU ?_;refine af (aT rfl rfl bV R5 (Row.at R1) (by have := R1.len; exact this) aJ Om Om ex.size) rfl ?_;rintro _ _ ⟨A6, c6, rfl, R6, be, _, _⟩;have F6 := F5.trans (be.mono hsF); have R7 := R6.cat; rw [hq, ← Wire.zc] at R7; replace R7 := R7.lower hsF;refine au 5 ?_;refine ak (dI rfl rfl Om (IntWalk.u64_quo _ _ Om)) ?_;refine au 9 ?_;refine ae ?_;refine YU _ _ ⟨j + 1, 1 + m, q / 256, c6, A6, rfl, rfl, Om, Om, YW, F6, R7⟩ Om Ls
 refine aU ?_;refine aa4 rfl ?_;obtain rfl : j = s := Om
 exact ⟨A5, c5, by rw [hmj], by rw [← hmj] at R ⊢; exact R, F⟩
theorem nW (h : z % 256 = (x : Int) % 256) : IntKind.u8.wrap z = ((UInt8.ofNat x).toNat : Int) := by rw [IntKind.wrap_u8', UInt8.toNat_ofNat']; omega
theorem Dc (x : Nat) (w : aa9) (hx : x < 1073741824) :
  Ct 124 #[.int .i64 (x : Int)] w fun e w' => ∃ A' c', e = .returned (.slice A' (Wire.jL x) c') ∧ Row w' w.heap.size 5 A' (Wire.jL x) c' ((Wire.len x).map bv) ∧ Ext w w' := by
 refine ai 34 func124 ?_;intro _ aa4;refine aa1 (fun YV => ?_) (fun YV => ?_)
 ·refine au 3 ?_;refine ak (bc rfl Tn.u Tn.u (nW (x := x) Om)) ?_;refine af (aF (z := .int .u8 0) Tn.u Kr rfl rfl rfl rfl rfl) rfl ?_;rintro _ w5 ⟨g5, rfl, B5, YU, ex⟩;refine aU ?_;exact aa4 rfl ⟨_, 1, by rw [show Wire.jL x = 1 from by unfold Wire.jL; rw [if_pos Om]], by rw [show Wire.jL x = 1 from by unfold Wire.jL; rw [if_pos Om], show Wire.len x = [UInt8.ofNat x] from by unfold Wire.len; rw [if_pos Om]]; exact Row.new B5 YU rfl (by unfold maxLen; omega), ex⟩
 refine aa1 (fun YW => ?_) (fun YW => ?_)
 ·refine au 3 ?_;refine ak (dI rfl rfl Om (IntWalk.i64_quo _ _ Om)) ?_;refine au 1 ?_;refine ak (bc rfl Tn.u Tn.u (nW (x := 64 + x / 256) Om)) ?_;refine au 1 ?_;refine ak (cR rfl rfl Om (IntWalk.rem_in _ _ Om)) ?_;refine ak (bc rfl Tn.u Tn.u (nW (x := x % 256) Om)) ?_;refine af (aF (z := .int .u8 0) Tn.u Kr rfl rfl rfl rfl rfl) rfl ?_;rintro _ w5 ⟨g5, rfl, B5, YU, ex⟩;refine aU ?_;exact aa4 rfl ⟨_, 2, by rw [show Wire.jL x = 2 from by unfold Wire.jL; rw [if_neg Om, if_pos Om]], by rw [show Wire.jL x = 2 from by unfold Wire.jL; rw [if_neg Om, if_pos Om], show Wire.len x = [UInt8.ofNat (64 + x / 256), UInt8.ofNat (x % 256)] from by unfold Wire.len; rw [if_neg Om, if_pos Om]]; exact Row.new B5 YU rfl (by unfold maxLen; omega), ex⟩
 refine au 5 ?_;refine ak (dI rfl rfl Om (IntWalk.i64_quo _ _ Om)) ?_;refine au 1 ?_;refine ak (bc rfl Tn.u Tn.u (nW (x := 128 + x / 16777216) Om)) ?_;refine au 1 ?_;refine ak (dI rfl rfl Om (IntWalk.i64_quo _ _ Om)) ?_;refine ak (cR rfl rfl Om (IntWalk.rem_in _ _ Om)) ?_;refine ak (bc rfl Tn.u Tn.u (nW (x := x / 65536 % 256) Om)) ?_;refine au 1 ?_;refine ak (dI rfl rfl Om (IntWalk.i64_quo _ _ Om)) ?_;refine ak (cR rfl rfl Om (IntWalk.rem_in _ _ Om)) ?_;refine ak (bc rfl Tn.u Tn.u (nW (x := x / 256 % 256) Om)) ?_;refine au 1 ?_;refine ak (cR rfl rfl Om (IntWalk.rem_in _ _ Om)) ?_;refine ak (bc rfl Tn.u Tn.u (nW (x := x % 256) Om)) ?_;refine af (aF (z := .int .u8 0) Tn.u Kr rfl rfl rfl rfl rfl) rfl ?_;rintro _ w5 ⟨g5, rfl, B5, YU, ex⟩;refine aU ?_;exact aa4 rfl ⟨_, 4, by rw [show Wire.jL x = 4 from by unfold Wire.jL; rw [if_neg Om, if_neg Om]], by rw [show Wire.jL x = 4 from by unfold Wire.jL; rw [if_neg Om, if_neg Om], show Wire.len x = [UInt8.ofNat (128 + x / 16777216), UInt8.ofNat (x / 65536 % 256), UInt8.ofNat (x / 256 % 256), UInt8.ofNat (x % 256)] from by unfold Wire.len; rw [if_neg Om, if_neg Om]]; exact Row.new B5 YU rfl (by unfold maxLen; omega), ex⟩
theorem iq (B : Oa) (m d : Nat) (ys : Lb) (w : aa9) (HB : Bs w B m ys) (hm : m < 1073741824) :
  Ct 54 #[.slice B m d] w fun e w' => ∃ A' k c', e = .returned (.slice A' k c') ∧ Row w' w.heap.size 5 A' k c' ((Wire.vec ys).map bv) ∧ k = Wire.jL m + m ∧ Ext w w' := by
 have hl := Wire.bH m;refine ai 8 func54 ?_;intro _ aa4;refine aU ?_;refine aB func124 rfl (Dc m _ hm) ?_;rintro e _ ⟨_, _, rfl, R1, ex⟩;replace HB := HB.ext ex;have E := ex; have YU := ex.size;refine aU ?_;refine af (aT rfl rfl bV R1 HB.2 (by rw [List.length_map, HB.1]) aJ Om Om YU) rfl ?_;rintro _ _ ⟨A2, c2, rfl, R2, be, _, hl⟩;have R3 := R2.cat; have E2 := E.trans be;refine aU ?_;exact aa4 rfl ⟨A2, _, c2, rfl, by rw [Wire.vec, HB.1]; exact R3, rfl, E2⟩
theorem xF (s : ByteArray) : ((⟨#[77, 76, 83, 32, 49, 46, 48, 32]⟩ : ByteArray) ++ s).data.toList = Kdf.N1 ++ s.data.toList := by simp [Kdf.N1]
theorem eC (s : ByteArray) : ((⟨#[77, 76, 83, 32, 49, 46, 48, 32]⟩ : ByteArray) ++ s).size = 8 + s.size := by rw [ByteArray.size_append]; rfl
end
section
open Go.RowKit
theorem Ic {x : Operand} {off : Nat} (hx : ev L x = some (.pointer (some ⟨b, off, none⟩))) (hy : ev L y = some (.int k a)) (hu : P.underlying t = some (.array n e)) (hs : (P.info? e).map (·.size) = some s) (ha : a = (j : Int)) (hj : j < n) :
  Y P L w (.slice t x (some y) none none) ty (.slice (some ⟨b, off + j * s, none⟩) (n - j) (n - j)) := fun ρ hρ w' _ _ _ _ _ => by
 subst ha
 have hb : ((Instr.sliceBounds false n n (some (.int k j)) none none).run P w') = .ok (j, n, n) w' := by have := Nat.le_of_lt hj;simp [Instr.sliceBounds, Instr.sliceBound, asIntOf, this]
 have hne : ¬ (n = j) := Om
 simp [execOp, hρ _ _ hx, hρ _ _ hy, Instr.sliceAt, Instr.sureAddr, run_underlying hu, hb, bz hs, hne, Addr.add_plain]
theorem IN {x : Operand} {A : Addr} (hx : ev L x = some (.pointer (some A))) (hy : ev L y = some (.int k a)) (hu : P.underlying t = some (.array n e)) (hs : (P.info? e).map (·.size) = some s) (ha : a = (j : Int)) (hj : j ≤ n) :
  Y P L w (.slice t x none (some y) none) ty (.slice (some A) j n) := fun ρ hρ w' _ _ _ _ _ => by
 subst ha
 have hb : ((Instr.sliceBounds false n n none (some (.int k j)) none).run P w') = .ok (0, j, n) w' := by simp [Instr.sliceBounds, Instr.sliceBound, asIntOf, hj]
 simp [execOp, hρ _ _ hx, hρ _ _ hy, Instr.sliceAt, Instr.sureAddr, run_underlying hu, hb, bz hs, Addr.add]
end
namespace Lng
def cP (x n : Nat) : Nat := x / 2 ^ n + x % 2 ^ n * 2 ^ (64 - n)
def s0 (x : Nat) : Nat := (cP x 1 ^^^ cP x 8) ^^^ (x / 128)
def s1 (x : Nat) : Nat := (cP x 19 ^^^ cP x 61) ^^^ (x / 64)
def S0 (x : Nat) : Nat := (cP x 28 ^^^ cP x 34) ^^^ cP x 39
def S1 (x : Nat) : Nat := (cP x 14 ^^^ cP x 18) ^^^ cP x 41
def ch (e f g : Nat) : Nat := (e &&& f) ^^^ ((18446744073709551615 - e) &&& g)
def yu (a b c : Nat) : Nat := ((a &&& b) ^^^ (a &&& c)) ^^^ (b &&& c)
def pre (l : List UInt8) (t : Nat) : Nat → Nat
 | 0 => 0
 | i + 1 => 256 * pre l t i + (l.getD (8 * t + i) 0).toNat
def RO (l : List UInt8) (t : Nat) : Nat := pre l t 8
def gT (l : List UInt8) : Nat → List Nat
 | 0 => []
 | k + 1 => gT l k ++ [RO l k]
def gE (p : List Nat) (k : Nat) : Nat := (s1 (p.getD (k + 14) 0) + p.getD (k + 9) 0 + s0 (p.getD (k + 1) 0) + p.getD k 0) % 18446744073709551616
def ext (m : List Nat) : Nat → List Nat
 | 0 => m
 | k + 1 => ext m k ++ [gE (ext m k) k]
def words (l : List UInt8) : List Nat := ext (gT l 16) 64
structure S8 where
 (a b c d e f g h : Nat)
def S8.list (s : S8) : List Nat := [s.a, s.b, s.c, s.d, s.e, s.f, s.g, s.h]
def S8.ok (s : S8) : Prop := s.a < 18446744073709551616 ∧ s.b < 18446744073709551616 ∧ s.c < 18446744073709551616 ∧ s.d < 18446744073709551616 ∧ s.e < 18446744073709551616 ∧ s.f < 18446744073709551616 ∧ s.g < 18446744073709551616 ∧ s.h < 18446744073709551616
def K : List Nat := [
 0x428a2f98d728ae22, 0x7137449123ef65cd, 0xb5c0fbcfec4d3b2f, 0xe9b5dba58189dbbc,
 0x3956c25bf348b538, 0x59f111f1b605d019, 0x923f82a4af194f9b, 0xab1c5ed5da6d8118,
 0xd807aa98a3030242, 0x12835b0145706fbe, 0x243185be4ee4b28c, 0x550c7dc3d5ffb4e2,
 0x72be5d74f27b896f, 0x80deb1fe3b1696b1, 0x9bdc06a725c71235, 0xc19bf174cf692694,
 0xe49b69c19ef14ad2, 0xefbe4786384f25e3, 0x0fc19dc68b8cd5b5, 0x240ca1cc77ac9c65,
 0x2de92c6f592b0275, 0x4a7484aa6ea6e483, 0x5cb0a9dcbd41fbd4, 0x76f988da831153b5,
 0x983e5152ee66dfab, 0xa831c66d2db43210, 0xb00327c898fb213f, 0xbf597fc7beef0ee4,
 0xc6e00bf33da88fc2, 0xd5a79147930aa725, 0x06ca6351e003826f, 0x142929670a0e6e70,
 0x27b70a8546d22ffc, 0x2e1b21385c26c926, 0x4d2c6dfc5ac42aed, 0x53380d139d95b3df,
 0x650a73548baf63de, 0x766a0abb3c77b2a8, 0x81c2c92e47edaee6, 0x92722c851482353b,
 0xa2bfe8a14cf10364, 0xa81a664bbc423001, 0xc24b8b70d0f89791, 0xc76c51a30654be30,
 0xd192e819d6ef5218, 0xd69906245565a910, 0xf40e35855771202a, 0x106aa07032bbd1b8,
 0x19a4c116b8d2d0c8, 0x1e376c085141ab53, 0x2748774cdf8eeb99, 0x34b0bcb5e19b48a8,
 0x391c0cb3c5c95a63, 0x4ed8aa4ae3418acb, 0x5b9cca4f7763e373, 0x682e6ff3d6b2b8a3,
 0x748f82ee5defb2fc, 0x78a5636f43172f60, 0x84c87814a1f0ab72, 0x8cc702081a6439ec,
 0x90befffa23631e28, 0xa4506cebde82bde9, 0xbef9a3f7b2c67915, 0xc67178f2e372532b,
 0xca273eceea26619c, 0xd186b8c721c0c207, 0xeada7dd6cde0eb1e, 0xf57d4f7fee6ed178,
 0x06f067aa72176fba, 0x0a637dc5a2c898a6, 0x113f9804bef90dae, 0x1b710b35131c471b,
 0x28db77f523047d84, 0x32caab7b40c72493, 0x3c9ebe0a15c9bebc, 0x431d67c49c100d4c,
 0x4cc5d4becb3e42b6, 0x597f299cfc657e2a, 0x5fcb6fab3ad6faec, 0x6c44198c4a475817]
def H0 : List Nat := [
 0x6a09e667f3bcc908, 0xbb67ae8584caa73b, 0x3c6ef372fe94f82b, 0xa54ff53a5f1d36f1,
 0x510e527fade682d1, 0x9b05688c2b3e6c1f, 0x1f83d9abfb41bd6b, 0x5be0cd19137e2179]
def IV : S8 := ⟨
 0x6a09e667f3bcc908, 0xbb67ae8584caa73b, 0x3c6ef372fe94f82b, 0xa54ff53a5f1d36f1,
 0x510e527fade682d1, 0x9b05688c2b3e6c1f, 0x1f83d9abfb41bd6b, 0x5be0cd19137e2179⟩
def T1 (s : S8) (k w : Nat) : Nat := s.h + S1 s.e + ch s.e s.f s.g + k + w
def T2 (s : S8) : Nat := S0 s.a + yu s.a s.b s.c
def sH (s : S8) (k w : Nat) : S8 :=
 ⟨(T1 s k w + T2 s) % 18446744073709551616, s.a, s.b, s.c, (s.d + T1 s k w) % 18446744073709551616, s.e, s.f, s.g⟩
def rounds (w : List Nat) (s : S8) : Nat → S8
 | 0 => s
 | t + 1 => sH (rounds w s t) (K.getD t 0) (w.getD t 0)
def S8.add (s x : S8) : S8 := ⟨(s.a + x.a) % 18446744073709551616, (s.b + x.b) % 18446744073709551616, (s.c + x.c) % 18446744073709551616, (s.d + x.d) % 18446744073709551616,
 (s.e + x.e) % 18446744073709551616, (s.f + x.f) % 18446744073709551616, (s.g + x.g) % 18446744073709551616, (s.h + x.h) % 18446744073709551616⟩
def step (s : S8) (b : List UInt8) : S8 := s.add (rounds (words b) s 80)
def lM (n : Nat) : List UInt8 := [UInt8.ofNat (n / 72057594037927936), UInt8.ofNat (n / 281474976710656), UInt8.ofNat (n / 1099511627776), UInt8.ofNat (n / 4294967296),
 UInt8.ofNat (n / 16777216), UInt8.ofNat (n / 65536), UInt8.ofNat (n / 256), UInt8.ofNat n]
def cv (n : Nat) : Nat := (239 - n % 128) % 128
def pad (n : Nat) : List UInt8 := 128 :: (List.replicate (cv n) 0 ++ (List.replicate 8 0 ++ lM (n * 8)))
def blocks (s : S8) (l : List UInt8) : Nat → S8
 | 0 => s
 | k + 1 => step (blocks s l k) ((l.drop (128 * k)).take 128)
def S8.bytes (s : S8) : List UInt8 := s.list.flatMap lM
def sum (b : List UInt8) : List UInt8 := (blocks IV (b ++ pad b.length) ((b ++ pad b.length).length / 128)).bytes
theorem ba (hx : x < 18446744073709551616) (hn : n ≤ 64) : cP x n < 18446744073709551616 := by
 unfold cP
 have h1 : x / 2 ^ n < 2 ^ (64 - n) := by rw [Nat.div_lt_iff_lt_mul (Nat.two_pow_pos n), ← Nat.pow_add, Nat.sub_add_cancel hn]; exact hx
 have h2 : x % 2 ^ n < 2 ^ n := Nat.mod_lt _ (Nat.two_pow_pos n)
 have h3 : x % 2 ^ n * 2 ^ (64 - n) + 2 ^ (64 - n) ≤ 18446744073709551616 := by have : (x % 2 ^ n + 1) * 2 ^ (64 - n) ≤ 2 ^ n * 2 ^ (64 - n) := Nat.mul_le_mul_right _ h2;rw [← Nat.pow_add, Nat.add_sub_cancel' hn, Nat.add_mul] at this;omega
 omega
theorem iV {y : Nat} (hx : x < 18446744073709551616) (hy : y < 18446744073709551616) : x ^^^ y < 18446744073709551616 := Nat.xor_lt_two_pow (n := 64) hx hy
theorem fz {y : Nat} (hx : x < 18446744073709551616) : x &&& y < 18446744073709551616 := Nat.lt_of_le_of_lt Nat.and_le_left hx
theorem ye (hx : x < 18446744073709551616) (hn : n ≤ 64) : (x * 2 ^ (64 - n) % 18446744073709551616) ||| (x / 2 ^ n) = cP x n := by
 have hp : (18446744073709551616 : Nat) = 2 ^ n * 2 ^ (64 - n) := by rw [← Nat.pow_add, Nat.add_sub_cancel' hn]
 have h1 : x * 2 ^ (64 - n) % 18446744073709551616 = x % 2 ^ n * 2 ^ (64 - n) := by rw [hp, Nat.mul_mod_mul_right]
 have h2 : x / 2 ^ n < 2 ^ (64 - n) := by rw [Nat.div_lt_iff_lt_mul (Nat.two_pow_pos n), ← Nat.pow_add, Nat.sub_add_cancel hn]; exact hx
 rw [h1, nat_join (64 - n) _ _ (by simp) h2];unfold cP;omega
theorem xG (l : List UInt8) (t i : Nat) : pre l t i < 256 ^ i := by
  induction i with
  | zero => simp [pre]
  | succ i ih =>
    have := (l.getD (8 * t + i) 0).toNat_lt
    simp only [pre, Nat.pow_succ]
    omega
theorem TP (l : List UInt8) (t : Nat) : RO l t < 18446744073709551616 := xG l t 8
theorem dt (l : List UInt8) (k : Nat) : (gT l k).length = k := by induction k with
 | zero => rfl
 | succ k ih => simp [gT, ih]
theorem fV (m : List Nat) (k : Nat) : (ext m k).length = m.length + k := by induction k with
 | zero => rfl
 | succ k ih => simp [ext, ih]; omega
theorem cH (l : List UInt8) : (words l).length = 80 := by simp [words, fV, dt]
theorem oX (l : List UInt8) (k : Nat) : ∀ x ∈ gT l k, x < 18446744073709551616 := by induction k with
  | zero => simp [gT]
  | succ k ih =>
    intro x hx
    simp only [gT, List.mem_append, List.mem_singleton] at hx
    rcases hx with hx | rfl
    · exact ih x hx
    exact TP l k
theorem oC (m : List Nat) (hm : ∀ x ∈ m, x < 18446744073709551616) (k : Nat) : ∀ x ∈ ext m k, x < 18446744073709551616 := by induction k with
  | zero => exact hm
  | succ k ih =>
    intro x hx
    simp only [ext, List.mem_append, List.mem_singleton] at hx
    rcases hx with hx | rfl
    · exact ih x hx
    unfold gE; omega
theorem fJ (hm : ∀ x ∈ m, x < 18446744073709551616) (k : Nat) : m.getD k 0 < 18446744073709551616 := by
 rw [List.getD_eq_getElem?_getD];rcases h : m[k]? with _ | x
 ·simp
 simpa [h] using hm x (List.mem_of_getElem? h)
theorem CN {s : S8} (h : s.ok) (k w : Nat) : (sH s k w).ok := by obtain ⟨h1, h2, h3, h4, h5, h6, h7, h8⟩ := h;exact ⟨Nat.mod_lt _ (Om), h1, h2, h3, Nat.mod_lt _ (Om), h5, h6, h7⟩
theorem gk (w : List Nat) {s : S8} (h : s.ok) (t : Nat) : (rounds w s t).ok := by induction t with
 | zero => exact h
 | succ t ih => exact CN ih _ _
theorem DP (s x : S8) : (s.add x).ok := ⟨Nat.mod_lt _ (Om), Nat.mod_lt _ (Om), Nat.mod_lt _ (Om), Nat.mod_lt _ (Om), Nat.mod_lt _ (Om), Nat.mod_lt _ (Om), Nat.mod_lt _ (Om), Nat.mod_lt _ (Om)⟩
theorem sK (s : S8) (b : List UInt8) : (step s b).ok := DP _ _
theorem rD : IV.ok := by unfold S8.ok IV; decide
theorem gW {s : S8} (h : s.ok) (l : List UInt8) (k : Nat) : (blocks s l k).ok := by cases k with
 | zero => exact h
 | succ k => exact sK _ _
theorem cJ (n : Nat) : (pad n).length = 17 + cv n := by simp [pad, lM]; omega
theorem kU (n : Nat) : (n + (pad n).length) % 128 = 0 := by rw [cJ]; unfold cv; omega
theorem lN (s : S8) : s.bytes.length = 64 := rfl
theorem bT (b : List UInt8) : (sum b).length = 64 := rfl
def fP (l m : List Nat) (k : Nat) : List Nat := (List.zipWith (fun x y => (x + y) % 18446744073709551616) l m).take k ++ l.drop k
theorem nB (l m : List Nat) : fP l m 0 = l := by simp [fP]
theorem mI {l : List Nat} (h : l.length = m.length) {k : Nat} (hk : k ≤ l.length) : (fP l m k).length = l.length := by simp [fP, ← h]; omega
theorem po {l : List Nat} (h : l.length = m.length) {k : Nat} (hk : k < l.length) : (fP l m k).getD k 0 = l.getD k 0 := by
 have e : ((List.zipWith (fun x y => (x + y) % 18446744073709551616) l m).take k).length = k := by grind
 simp only [fP, List.getD_eq_getElem?_getD];rw [List.getElem?_append_right (Om), e, Nat.sub_self, List.getElem?_drop, Nat.add_zero]
theorem qn {l : List Nat} (h : l.length = m.length) {k : Nat} (hk : k < l.length) : (fP l m k).set k ((l.getD k 0 + m.getD k 0) % 18446744073709551616) = fP l m (k + 1) := by
 have e : ((List.zipWith (fun x y => (x + y) % 18446744073709551616) l m).take k).length = k := by grind
 have hz : k < (List.zipWith (fun x y => (x + y) % 18446744073709551616) l m).length := by grind
 simp only [fP];rw [List.set_append_right _ _ (Om), e, Nat.sub_self, List.take_succ_eq_append_getElem hz, List.drop_eq_getElem_cons hk];grind
theorem sW (s x : S8) : (s.add x).list = fP s.list x.list 8 := rfl
def wt (l : List UInt8) (t : Nat) : List Nat := ext (gT l (min t 16)) (t - 16)
theorem wY {l : List UInt8} {t : Nat} (h : 16 ≤ t) : wt l (t + 1) = wt l t ++ [gE (wt l t) (t - 16)] := by unfold wt;rw [show min (t + 1) 16 = 16 from Om, show min t 16 = 16 from Om, show t + 1 - 16 = (t - 16) + 1 from Om];rfl
theorem um (l : List UInt8) : wt l 80 = words l := rfl
theorem Ij (l : List UInt8) (t : Nat) : (wt l t).length = t := by unfold wt; rw [fV, dt]; omega
theorem Mm (l : List UInt8) (t : Nat) : ∀ x ∈ wt l t, x < 18446744073709551616 := oC _ (oX l _) _
end Lng
section
open Go.RowKit
def Ns (k : IntKind) (w : aa9) (A : Oa) (n : Nat) (xs : List Nat) : Prop := xs.length = n ∧ At w A (xs.map (iv k))
theorem Ns.get (h : Ns k w A n xs) (hi : i < n) : ∃ b off x, A = some ⟨b, off, none⟩ ∧ Hid (x = xs.getD i 0) ∧ b < w.heap.size ∧ w.cell? ⟨b, off + i, none⟩ = some (.int k (x : Int)) := by
 have hl : i < xs.length := by rw [h.1]; exact hi
 obtain ⟨b, off, e, hb, hc⟩ := h.2.get (k := i) (by simpa using hl);exact ⟨b, off, _, e, rfl, hb, by simpa [iv, hl] using hc⟩
theorem Ns.below (h : Ns k w A n xs) (hb : Below w.heap.size w w') : Ns k w' A n xs := ⟨h.1, h.2.below hb⟩
theorem Ns.grown (h : Ns k w A n xs) (hg : w.grownBy w' (some g)) (hne : ∀ b off, A = some ⟨b, off, none⟩ → b ≠ g) : Ns k w' A n xs := by
 refine ⟨h.1, ?_⟩
 rcases h.2 with h0 | ⟨b, off, hA, hc⟩
 ·exact .inl h0
 exact .inr ⟨b, off, hA, fun j u hu => hg.cell (hc j u hu) (by simpa using hne b off hA)⟩
end
section
open Go.RowKit
attribute [local irreducible] Y Ef WL WC WK WQ WM cu
section
variable {v : Nat}
theorem Ns.ext (h : Ns k w A n xs) (E : Ext w w') : Ns k w' A n xs := h.below E
theorem Ns.wk (h : Ns k w0 A n xs) (E : Ext w0 w) : Ns k w A n xs := h.below E
theorem Ns.oM {c : Nat} (h : Row w base e A n c (xs.map (iv k))) : Ns k w A n xs := ⟨by have := h.len; simpa using this, Row.at h⟩
theorem Row.XV {c : Nat} (h : Row w base e A n c (xs.map (iv k) ++ ys.map (iv k))) : Row w base e A n c ((xs ++ ys).map (iv k)) := by rw [List.map_append]; exact h
theorem Ns.fA (h : aq w g t (aM k xs)) (hn : xs.length = n) : Ns k w (cf g) n xs :=
 ⟨hn, At.fA (vs := xs.map (iv k)) h⟩
theorem Ns.cell (h : Ns k w A n xs) (hi : i < n) : ∃ b off x, A = some ⟨b, off, none⟩ ∧ Hid (x = xs.getD i 0) ∧ w.cell? ⟨b, off + i, none⟩ = some (.int k (x : Int)) := by obtain ⟨b, off, x, e, hx, _, hc⟩ := h.get hi;exact ⟨b, off, x, e, hx, hc⟩
end
theorem bk (h : a = (n : Int)) (hn : n ≤ 9223372036854775807) : IntKind.i64.wrap a = (n : Int) := by subst h; exact bj Om Om
theorem rk (n : Int) : IntKind.u64.wrap n = n % 18446744073709551616 := by simp [IntKind.wrap, IntKind.bits, IntKind.signed]
theorem Qx (h : a = (n : Int)) : IntKind.u64.wrap a = ((n % 18446744073709551616 : Nat) : Int) := by subst h; rw [rk]; omega
theorem aG (h : a = (n : Int)) (hn : n < 18446744073709551616) : IntKind.u64.wrap a = (n : Int) := by subst h; rw [rk]; omega
theorem Li : Cf Tryz.prog 177 38 8 := Cf.of Tryz.underlying177 (z := .int .u64 0) Kr rfl
end
section
open Go.RowKit Tryz
attribute [local irreducible] Y Ef WL WC WK WQ WM cu WN WF db
theorem RY (n : Nat) (h1 : 1 ≤ n) (h2 : n ≤ 63) : bits .and .u64 ((18446744073709551616 - n : Nat) : Int) 63 = ((64 - n : Nat) : Int) := by have h := u64_and_nat (18446744073709551616 - n) 63 Om Om;rw [show ((63 : Nat) : Int) = 63 from rfl] at h;rw [h, show (63 : Nat) = 2 ^ 6 - 1 from rfl, Nat.and_two_pow_sub_one_eq_mod];congr 1;omega
theorem QZ (k : Nat) (h : k ≤ 64) : min ((k : Int)).toNat IntKind.u64.bits = k := by show min k 64 = k; omega
theorem RN (x k : Nat) (h : k ≤ 64) : IntKind.u64.wrap ((x : Int) * 2 ^ (min ((k : Int)).toNat IntKind.u64.bits)) = ((x * 2 ^ k % 18446744073709551616 : Nat) : Int) := by rw [QZ k h];show ((x : Int) * 2 ^ k) % 18446744073709551616 = _;rw [Int.natCast_emod, Int.natCast_mul, Int.natCast_pow]; rfl
theorem Bw (x k : Nat) (h : k ≤ 64) : (x : Int) / 2 ^ (min ((k : Int)).toNat IntKind.u64.bits) = ((x / 2 ^ k : Nat) : Int) := by rw [QZ k h, Int.natCast_ediv, Int.natCast_pow]; rfl
theorem KQ (x n : Nat) (w : aa9) (hx : x < 18446744073709551616) (h1 : 1 ≤ n) (h2 : n ≤ 63) :
  Ct 272 #[.int .u64 (x : Int), .int .i64 (-(n : Int))] w (ck w (.int .u64 ((Lng.cP x n : Nat) : Int))) := by
 have E := Ext.refl w;refine ai 17 func272 ?_;intro _ aa4;refine au 8 ?_;refine ak (bc rfl Tn.u Tn.u (show IntKind.u64.wrap (-(n : Int)) = ((18446744073709551616 - n : Nat) : Int) from by show (-(n : Int)) % 18446744073709551616 = _; omega)) ?_;refine ak (cT rfl rfl (RY n h1 h2)) ?_;refine au 7 ?_;refine ak (fX rfl rfl Om (RN x (64 - n) Om)) ?_;refine au 2 ?_;refine ak (fG rfl rfl (aG (n := n) Om Om)) ?_;refine ak (cn rfl rfl Om (Bw x n Om)) ?_;refine ak (jZ rfl rfl (show _ = ((Lng.cP x n : Nat) : Int) from by rw [u64_or_nat _ _ (Nat.mod_lt _ Om) (Nat.lt_of_le_of_lt (Nat.div_le_self _ _) hx), Lng.ye hx Om])) ?_;refine aU ?_;exact aa4 rfl ⟨rfl, E⟩
theorem dU (x n : Nat) (w : aa9) (hx : x < 18446744073709551616) (h1 : 1 ≤ n) (h2 : n ≤ 63) :
  Ct 269 #[.int .u64 (x : Int), .int .i64 (n : Int)] w (ck w (.int .u64 ((Lng.cP x n : Nat) : Int))) := by
 have E := Ext.refl w;refine ai 9 func269 ?_;intro _ aa4;refine au 9 ?_;refine ak (Ng rfl (show IntKind.i64.wrap (0 - (n : Int)) = -(n : Int) from by rw [bj Om Om]; omega)) ?_;refine aB func272 rfl (KQ x n _ hx h1 h2) ?_;rintro e _ ⟨rfl, ex⟩;replace E := E.ext ex;refine aU ?_;exact aa4 rfl ⟨rfl, E⟩
theorem En (w : aa9) : Ct 255 #[] w (ck w (.agg (aM .u64 Lng.H0))) := by refine aH (s := 8) 2 func255 rfl rfl rfl underlying294 rfl Kr rfl ?_;intro _ aa4;refine aU ?_;intro w1 g1 (B1 : aq _ _ _ (aM .u64 (me 8))) YU ex;have E1 := ex;refine au 4 ?_;refine ak (aA rfl (cells := aM .u64 Lng.H0) Kr) ?_;refine af (ag rfl rfl Kr B1 rfl (cZ _ _)) rfl ?_;rintro _ _ ⟨rfl, B2, cg⟩;have E2 := E1.aw cg YU;refine aU ?_;refine aa4 rfl B2 (by rw [bf]; rfl) ?_;exact ⟨rfl, E2⟩
set_option maxRecDepth 100000 in
theorem Eo (w : aa9) : Ct 256 #[] w (ck w (.agg (aM .u64 Lng.K))) := by refine aH (s := 80) 2 func256 rfl rfl rfl underlying296 rfl Kr rfl ?_;intro _ aa4;refine aU ?_;intro w1 g1 (B1 : aq _ _ _ (aM .u64 (me 80))) YU ex;have E1 := ex;refine au 4 ?_;refine ak (aA rfl (cells := aM .u64 Lng.K) Kr) ?_;refine af (ag rfl rfl Kr B1 rfl (cZ _ _)) rfl ?_;rintro _ _ ⟨rfl, B2, cg⟩;have E2 := E1.aw cg YU;refine aU ?_;refine aa4 rfl B2 (by rw [bf]; rfl) ?_;exact ⟨rfl, E2⟩
theorem kN (z : Int) : IntKind.u64.wrap z = z % 18446744073709551616 := rfl
theorem vM (a b c : Nat) (ha : a < 18446744073709551616) (hb : b < 18446744073709551616) (hc : c < 18446744073709551616) : bits .xor .u64 (bits .xor .u64 (a : Int) (b : Int)) (c : Int) = (((a ^^^ b) ^^^ c : Nat) : Int) := by rw [u64_xor_nat _ _ ha hb, u64_xor_nat _ _ (Lng.iV ha hb) hc]
theorem sN (l r : List Nat) (h : j < l.length) : (aM .u64 (l ++ r))[0 + j]? = some (.int .u64 ((l.getD j 0 : Nat) : Int)) := by
 rw [Nat.zero_add, dQ .u64 (l ++ r) j (by rw [List.length_append]; omega)];have e : (l ++ r).getD j 0 = l.getD j 0 := by rw [List.getD_eq_getElem?_getD, List.getElem?_append_left h, List.getD_eq_getElem?_getD]
 rw [e]
theorem Ci (l r : List Nat) (x : Nat) (h : j = l.length) : (aM .u64 (l ++ x :: r))[0 + j]? = some (.int .u64 ((x : Nat) : Int)) := by subst h;rw [Nat.zero_add, dQ .u64 (l ++ x :: r) _ (by rw [List.length_append, List.length_cons]; omega)];congr 4;simp
theorem Fa (l r : List Nat) (x y : Nat) (h : j = l.length) : (aM .u64 (l ++ x :: r)).setIfInBounds (0 + j) (.int .u64 ((y : Nat) : Int)) = aM .u64 (l ++ y :: r) := by subst h;rw [Nat.zero_add, gu];congr 1;simp
theorem Vg {k : Nat} (h : k < n) : List.replicate (n - k) 0 = 0 :: List.replicate (n - 1 - k) 0 := by rw [show n - k = (n - 1 - k) + 1 from Om, List.replicate_succ]
theorem Xp (a b : Nat) (ha : 256 * a + b < 18446744073709551616) (hb : b < 256) : bits .or .u64 ((a * 2 ^ 8 % 18446744073709551616 : Nat) : Int) ((b : Nat) : Int) = ((256 * a + b : Nat) : Int) := by rw [u64_or_nat _ _ (Nat.mod_lt _ Om) Om, Nat.mod_eq_of_lt Om];congr 1;rw [nat_join 8 _ b Om Om]; omega
theorem L7 (xs : Lb) (t i : Nat) (h : i < 8) (hl : 8 * t + 8 ≤ xs.length) : ((xs.drop (8 * t)).take 8).getD i 0 = xs.getD (8 * t + i) 0 := by simp [List.getD_eq_getElem?_getD, List.getElem?_take, List.getElem?_drop, h]
theorem Dk (A : Oa) (c : Nat) (xs : Lb) (w : aa9) (HA : Bs w A 128 xs) (hc : 128 ≤ c) (YZ : c ≤ 9223372036854775807) :
  Ct 268 #[.slice A 128 c] w (ck w (.agg (aM .u64 (Lng.words xs)))) := by
 have hxl := HA.1;refine aH (s := 80) 78 func268 rfl rfl rfl underlying296 rfl Kr rfl ?_;intro _ aa4;refine au 2 ?_;refine af (dG (Z := aM .u64 (me 80)) Kr) rfl ?_;rintro _ _ ⟨g2, rfl, B2, Za, ex⟩;have E1 := ex;refine au 4 ?_;refine af (dG (Z := aM .u64 (me 80)) Kr) rfl ?_;rintro _ _ ⟨g3, rfl, B3, Y0, ex⟩;have E2 := E1.ext ex; have C2 := B2.ext ex; have YU := Nat.le_trans E1.size Y0; have hne : g2 < g3 := Nat.lt_of_lt_of_le B2.lt Y0;refine au 9 ?_;refine aE (fun n' L wr => ∃ t : Nat, L = [(0, .slice A 128 c), (2, .pointer (cf g2)), (3, .pointer (cf g3)), (10, .int .i64 (t : Int))] ∧ n' = 16 - t ∧ (t ≤ 16 ∧ Ext w wr ∧ aq wr g2 296 (aM .u64 (me 80)) ∧ aq wr g3 296 (aM .u64 (Lng.gT xs t ++ List.replicate (80 - t) 0)))) _ _ ⟨0, rfl, rfl, Om, E2, C2, B3⟩ Ls ?_;rintro _ n' L wr ⟨t, rfl, rfl, ht, E, C2, D3⟩ Zb;refine au 2 ?_;refine ak (fB rfl rfl) ?_;refine au 3 ?_;refine al rfl (fun Zc => ?_) (fun Zc => ?_)
 ·refine au 14 ?_;refine ak (cS rfl rfl (bk (n := 8 * t) Om Om)) ?_;refine au 1 ?_;refine ak (cS rfl rfl (bk (n := 8 * t) Om Om)) ?_;refine ak (aO rfl rfl (bk (n := 8 * t + 8) Om Om)) ?_;refine ak (ED (s := 1) rfl rfl rfl Tn.u Kr (j := 8 * t) (h := 8 * t + 8) rfl rfl Om Om) ?_;refine ak (Y.as (rH rfl Tn.u) (congrArg (Value.int .i64) (show (((8 * t + 8 - 8 * t : Nat)) : Int) = 8 from Om))) ?_;refine au 4 ?_;refine aE (fun n' L wq => ∃ i : Nat, L = [(0, .slice A 128 c), (2, .pointer (cf g2)), (3, .pointer (cf g3)), (4, .int .i64 (t : Int)), (10, .int .i64 (t : Int)), (19, .slice (lZ A c (8 * t) 1) (8 * t + 8 - 8 * t) (c - 8 * t)), (20, .int .i64 8), (21, .int .i64 (i : Int))] ∧ n' = 8 - i ∧ (i ≤ 8 ∧ Ext w wq ∧ aq wq g2 296 (aM .u64 (me 80)) ∧ aq wq g3 296 (aM .u64 (Lng.gT xs t ++ Lng.pre xs t i :: List.replicate (79 - t) 0)))) _ _ ⟨0, rfl, rfl, Om, E, C2, (by rw [Vg Om] at D3; exact D3)⟩ Ls ?_;rintro _ n' L wq ⟨i, rfl, rfl, _, F, C2, D3⟩ Zd;refine au 2 ?_;refine ak (fB rfl rfl) ?_;refine au 3 ?_;refine al rfl (fun YZ => ?_) (fun YZ => ?_)
  ·have HW := ((HA.wk F).lZ (j := 8 * t) Om hc).take (k := 8) Om;obtain ⟨b, off, x, hAc, hx, aa7⟩ := HW.byte (k := i) Om;have Ze := x.toNat_lt;have hxe : x = xs.getD (8 * t + i) 0 := by rw [hx.out, L7 xs t i Om Om]
   have hpl := Lng.xG xs t i;have hpp : 256 ^ i ≤ 72057594037927936 := Nat.pow_le_pow_right (n := 256) Om (show i ≤ 7 by omega);have hwl := Lng.dt xs t;refine au 6 ?_;refine ak (aC (show some (Value.slice (lZ A c (8 * t) 1) (8 * t + 8 - 8 * t) (c - 8 * t)) = some (Value.slice (some ⟨b, off, none⟩) (8 * t + 8 - 8 * t) (c - 8 * t)) from by rw [hAc]) rfl Tn.u Kr rfl Om) ?_;refine ak (ah rfl Tn.u rfl aa7) ?_;refine au 6 ?_;refine ak (bM rfl rfl Tn.u Kr rfl Om) ?_;refine ak (ah rfl Tn.u rfl (D3.get (Ci _ _ _ hwl.symm))) ?_;refine ak (fX rfl rfl Om (RN _ 8 Om)) ?_;refine au 1 ?_;refine ak (bc rfl Tn.u Tn.u (IntWalk.u64_in _ ⟨Om, Om⟩)) ?_;refine ak (jZ rfl rfl (Xp _ _ Om Om)) ?_;refine ak (bM rfl rfl Tn.u Kr rfl Om) ?_;refine af (az rfl rfl rfl Kr D3 (Array.getElem?_eq_some_iff.1 (Ci _ _ _ hwl.symm)).1) rfl ?_;rintro _ w5 ⟨rfl, B5, cg⟩;rw [Fa _ _ _ _ hwl.symm] at B5; have F5 := F.aw cg YU; have G2 := C2.aw cg Om;refine au 4 ?_;refine ak (aO rfl rfl (bj Om Om)) ?_;refine au 2 ?_;refine ae ?_;refine Zd _ _ ⟨i + 1, rfl, rfl, Om, F5, G2, (by rw [Lng.pre, ← hxe]; exact B5)⟩ Om Ls
  obtain rfl : i = 8 := Om
  refine au 7 ?_;refine ak (aO rfl rfl (bj Om Om)) ?_;refine au 2 ?_;refine ae ?_;refine Zb _ _ ⟨t + 1, rfl, rfl, Om, F, C2, (by show aq _ _ _ (aM .u64 ((Lng.gT xs t ++ [Lng.RO xs t]) ++ _)); rw [List.append_assoc, show 80 - (t + 1) = 79 - t from Om]; exact D3)⟩ Om Ls
 obtain rfl : t = 16 := Om
 refine au 12 ?_;refine aE (fun n' L wr => ∃ t : Nat, L = [(2, .pointer (cf g2)), (3, .pointer (cf g3)), (7, .int .i64 (t : Int))] ∧ n' = 80 - t ∧ (16 ≤ t ∧ t ≤ 80 ∧ Ext w wr ∧ aq wr g2 296 (aM .u64 (me 80)) ∧ aq wr g3 296 (aM .u64 (Lng.wt xs t ++ List.replicate (80 - t) 0)))) _ _ ⟨16, rfl, rfl, Om, Om, E, C2, D3⟩ Ls ?_;rintro _ n' L wr ⟨t, rfl, rfl, Zf, ht, E, C2, D3⟩ Zg;refine au 4 ?_;refine ak (fB rfl rfl) ?_;refine au 2 ?_;refine al rfl (fun Zh => ?_) (fun Zh => ?_)
 ·refine au 5 ?_;have hwl := Lng.Ij xs t;have hlt : ∀ j, (Lng.wt xs t).getD j 0 < 18446744073709551616 := Lng.fJ (Lng.Mm xs t)
  obtain ⟨YV, YX⟩ : ∃ v, v = (Lng.wt xs t).getD (t - 15) 0 := ⟨_, rfl⟩
  obtain ⟨v2, e2⟩ : ∃ v, v = (Lng.wt xs t).getD (t - 2) 0 := ⟨_, rfl⟩
  obtain ⟨v7, e7⟩ : ∃ v, v = (Lng.wt xs t).getD (t - 7) 0 := ⟨_, rfl⟩
  obtain ⟨Y2, YY⟩ : ∃ v, v = (Lng.wt xs t).getD (t - 16) 0 := ⟨_, rfl⟩
  have YW := hlt (t - 15); have l2 := hlt (t - 2); have l7 := hlt (t - 7); have Zi := hlt (t - 16);rw [← YX] at YW; rw [← e2] at l2; rw [← e7] at l7; rw [← YY] at Zi;refine aD Kr 10 rfl ?_; intro Zj ex Zk;obtain ⟨E,C2,D3⟩ := bh ex E C2 D3;refine my 0 rfl (aL rfl) ?_;refine my 1 rfl (fG rfl rfl (bj Om Om)) ?_;refine my 2 rfl (bM rfl rfl Tn.u Kr (j := t - 15) Om Om) ?_;refine my 3 rfl (ah rfl Tn.u rfl (D3.get (v := .int .u64 (YV : Int)) (by rw [YX]; exact sN _ _ Om))) ?_;refine my 4 rfl (aL rfl) ?_;refine my 5 rfl (fG rfl rfl (bj Om Om)) ?_;refine my 6 rfl (bM rfl rfl Tn.u Kr (j := t - 2) Om Om) ?_;refine my 7 rfl (ah rfl Tn.u rfl (D3.get (v := .int .u64 (v2 : Int)) (by rw [e2]; exact sN _ _ Om))) ?_;refine my 8 rfl (di rfl) ?_;refine my 9 rfl (di rfl) ?_;refine pE Kr ?_;refine au 2 ?_;refine aD Kr 30 rfl ?_; intro Zl ex Zm;obtain ⟨E,C2,D3⟩ := bh ex E C2 D3;refine dF 0 rfl (fun _ => aL rfl) ?_;refine dF 1 rfl (fun _ => aL rfl) ?_;refine dF 3 rfl (fun _ => aL rfl) ?_;refine dF 6 rfl (fun _ => aL rfl) ?_;refine dF 7 rfl (fun _ => cn rfl rfl Om (Bw v2 6 Om)) ?_;refine dF 9 rfl (fun _ => aL rfl) ?_;refine dF 10 rfl (fun _ => fG rfl rfl (bj Om Om)) ?_;refine dF 11 rfl (fun _ => bM rfl rfl Tn.u Kr (j := t - 7) Om Om) ?_;refine my 12 rfl (ah rfl Tn.u rfl (D3.get (v := .int .u64 (v7 : Int)) (by rw [e7]; exact sN _ _ Om))) ?_;refine dF 14 rfl (fun _ => aL rfl) ?_;refine dF 16 rfl (fun _ => aL rfl) ?_;refine dF 19 rfl (fun _ => aL rfl) ?_;refine dF 20 rfl (fun _ => cn rfl rfl Om (Bw YV 7 Om)) ?_;refine dF 23 rfl (fun _ => aL rfl) ?_;refine dF 24 rfl (fun _ => fG rfl rfl (bj Om Om)) ?_;refine dF 25 rfl (fun _ => bM rfl rfl Tn.u Kr (j := t - 16) Om Om) ?_;refine my 26 rfl (ah rfl Tn.u rfl (D3.get (v := .int .u64 (Y2 : Int)) (by rw [YY]; exact sN _ _ Om))) ?_;refine bC 2 rfl func269 rfl (dU v2 19 _ l2 Om Om) ?_;rintro e w9 ⟨rfl, ex⟩;obtain ⟨E,C2,D3⟩ := bh ex E C2 D3;refine au 1 ?_;refine bC 4 rfl func269 rfl (dU v2 61 _ l2 Om Om) ?_;rintro e w9 ⟨rfl, ex⟩;obtain ⟨E,C2,D3⟩ := bh ex E C2 D3;refine au 1 ?_;refine dF 5 rfl (fun _ => bO rfl rfl rfl) ?_;refine dF 8 rfl (fun _ => bO rfl rfl (vM _ _ _ (Lng.ba l2 Om) (Lng.ba l2 Om) Om)) ?_;refine dF 13 rfl (fun _ => aO rfl rfl rfl) ?_;refine bC 15 rfl func269 rfl (dU YV 1 _ YW Om Om) ?_;rintro e w9 ⟨rfl, ex⟩;obtain ⟨E,C2,D3⟩ := bh ex E C2 D3;refine au 1 ?_;refine bC 17 rfl func269 rfl (dU YV 8 _ YW Om Om) ?_;rintro e w9 ⟨rfl, ex⟩;obtain ⟨E,C2,D3⟩ := bh ex E C2 D3;refine au 1 ?_;refine dF 18 rfl (fun _ => bO rfl rfl rfl) ?_;refine dF 21 rfl (fun _ => bO rfl rfl (vM _ _ _ (Lng.ba YW Om) (Lng.ba YW Om) Om)) ?_;refine dF 22 rfl (fun _ => aO rfl rfl rfl) ?_;refine dF 27 rfl (fun _ => Y.as (aO rfl rfl rfl) (congrArg (Value.int .u64) (show _ = (((Lng.s1 v2 + v7 + Lng.s0 YV + Y2) % 18446744073709551616 : Nat) : Int) from by rw [kN, kN, kN]; simp only [Lng.s1, Lng.s0, Nat.reducePow]; omega))) ?_;refine dF 28 rfl (fun _ => bM rfl rfl Tn.u Kr rfl Om) ?_;have Y3 := D3; rw [Vg Om] at Y3;refine aR 29 Kr ?_; refine bE rfl (az rfl rfl rfl Kr Y3 (Array.getElem?_eq_some_iff.1 (Ci _ _ _ hwl.symm)).1) rfl ?_;rintro _ w5 ⟨rfl, B5, cg⟩;refine ⟨.inl rfl, ?_⟩;rw [Fa _ _ _ _ hwl.symm] at B5; have F5 := E.aw cg YU; have G2 := C2.aw cg Om;refine pE Kr ?_;refine au 5 ?_;refine ak (aO rfl rfl (bj Om Om)) ?_;refine au 2 ?_;refine ae ?_;refine Zg _ _ ⟨t + 1, rfl, rfl, Om, Om, F5, G2, (by rw [Lng.wY Zf, List.append_assoc, show 80 - (t + 1) = 80 - 1 - t from Om]; unfold Lng.gE; rw [show t - 16 + 14 = t - 2 from Om, show t - 16 + 9 = t - 7 from Om, show t - 16 + 1 = t - 15 from Om, ← e2, ← e7, ← YX, ← YY]; exact B5)⟩ Om Ls
 refine au 7 ?_;obtain rfl : t = 80 := Om
 have D4 : aq wr g3 296 (aM .u64 (Lng.words xs)) := by have := D3; rw [List.replicate_zero, List.append_nil, Lng.um] at this; exact this
 refine ak (aP rfl Tn.u rfl Kr D4) ?_;refine af (ag rfl rfl (by rw [bf, Lng.cH]; kernel_rfl) C2 (by rw [bf, bf, Lng.cH]; rfl) (cZ _ _)) rfl ?_;rintro _ _ ⟨rfl, B8, cg⟩;have G8 := E.aw cg Za;refine au 3 ?_;exact aa4 rfl B8 (by rw [bf, Lng.cH]) ⟨rfl, G8⟩
theorem Kd (e f g : Nat) (he : e < 18446744073709551616) (hf : f < 18446744073709551616) (hg : g < 18446744073709551616) :
  bits .xor .u64 (bits .and .u64 (e : Int) (f : Int)) (bits .and .u64 (bits .xor .u64 IntKind.u64.max (e : Int)) (g : Int)) = ((Lng.ch e f g : Nat) : Int) := by
 have h1 : bits .xor .u64 IntKind.u64.max (e : Int) = ((18446744073709551615 - e : Nat) : Int) := by
  show bits .xor .u64 ((18446744073709551615 : Nat) : Int) (e : Int) = _;rw [u64_xor_nat _ _ Om he];congr 1;apply Nat.eq_of_testBit_eq;intro i;have h1 := Nat.testBit_two_pow_sub_succ (n := 64) he i;have h2 := Nat.testBit_two_pow_sub_one 64 i;rw [show (2 : Nat) ^ 64 - (e + 1) = 18446744073709551615 - e from Om] at h1;rw [show (2 : Nat) ^ 64 - 1 = 18446744073709551615 from rfl] at h2;rw [Nat.testBit_xor, h1, h2];by_cases hi : i < 64
  ·simp [hi]
  have : e.testBit i = false := Nat.testBit_lt_two_pow (Nat.lt_of_lt_of_le he (Nat.pow_le_pow_right (n := 2) Om (by omega : 64 ≤ i)));simp [hi, this]
 rw [h1, u64_and_nat _ _ he hf, u64_and_nat _ _ Om hg, u64_xor_nat _ _ (Lng.fz he) (Lng.fz Om)];rfl
theorem Ia (a b c : Nat) (ha : a < 18446744073709551616) (hb : b < 18446744073709551616) (hc : c < 18446744073709551616) :
  bits .xor .u64 (bits .xor .u64 (bits .and .u64 (a : Int) (b : Int)) (bits .and .u64 (a : Int) (c : Int))) (bits .and .u64 (b : Int) (c : Int)) = ((Lng.yu a b c : Nat) : Int) := by
 rw [u64_and_nat _ _ ha hb, u64_and_nat _ _ ha hc, u64_and_nat _ _ hb hc, vM _ _ _ (Lng.fz ha) (Lng.fz ha) (Lng.fz hb)];rfl
theorem SV {s : Lng.S8} (h : s.ok) (i : Nat) : s.list.getD i 0 < 18446744073709551616 := by obtain ⟨h1, h2, h3, h4, h5, h6, h7, h8⟩ := h;refine Lng.fJ ?_ i;simp only [Lng.S8.list, List.mem_cons, List.not_mem_nil, or_false];rintro _ (rfl | rfl | rfl | rfl | rfl | rfl | rfl | rfl) <;> assumption
theorem DW {a c d e f kt wt : Nat} {x y : Int} (hx : x = (((d + Lng.T1 ⟨a, b, c, d, e, f, g, h⟩ kt wt) % 18446744073709551616 : Nat) : Int)) (hy : y = (((Lng.T1 ⟨a, b, c, d, e, f, g, h⟩ kt wt + Lng.T2 ⟨a, b, c, d, e, f, g, h⟩) % 18446744073709551616 : Nat) : Int)) :
  ((aM .u64 [a, a, b, c, d, e, f, g]).setIfInBounds 4 (.int .u64 x)).setIfInBounds 0 (.int .u64 y) = aM .u64 (Lng.sH ⟨a, b, c, d, e, f, g, h⟩ kt wt).list := by subst hx; subst hy; rfl
theorem lA (s : Lng.S8) : s.list.length = 8 := rfl
theorem Cl (s : Lng.S8) (xs : Lb) : (Lng.step s xs).list = Lng.fP s.list (Lng.rounds (Lng.words xs) s 80).list 8 := by unfold Lng.step; exact Lng.sW _ _
theorem qf (l : List Nat) (h : j < l.length) : (aM .u64 l)[0 + j]? = some (.int .u64 ((l.getD j 0 : Nat) : Int)) := by rw [Nat.zero_add]; exact dQ _ _ _ h
theorem GR (A : Oa) (c : Nat) (xs : Lb) (s : Lng.S8) (w : aa9) (HA : Bs w A 128 xs) (hc : 128 ≤ c) (YW : c ≤ 9223372036854775807) (hs : s.ok) :
  Ct 258 #[.agg (aM .u64 s.list), .agg (aM .u64 Lng.K), .slice A 128 c] w (ck w (.agg (aM .u64 (Lng.step s xs).list))) := by
 have E := Ext.refl w;refine aH (s := 8) 105 func258 rfl rfl rfl underlying294 rfl Kr rfl ?_;intro _ aa4;refine aU ?_;intro w1 g3 (B3 : aq _ _ _ (aM .u64 s.list)) YX ex;obtain ⟨E,HA⟩ := aS ex E HA;have Ze := B3.lt;refine aU ?_;intro w2 g4 (B4 : aq _ _ _ (aM .u64 Lng.K)) Zf ex;obtain ⟨E,HA,B3⟩ := bh ex E HA B3;have Zg := B4.lt;refine aU ?_;intro w3 g6 (B6 : aq _ _ _ (aM .u64 (me 8))) Zh ex;obtain ⟨E,HA,B3,B4⟩ := bG ex E HA B3 B4;have Zi := B6.lt;refine aU ?_;refine aB func268 rfl (Dk A c xs _ HA hc YW) ?_;rintro e w4 ⟨rfl, ex⟩;obtain ⟨E,B3,B4,B6⟩ := bG ex E B3 B4 B6;have Zj := ex.size;have F := Ext.refl w4; have E0 := E; have J3 := B3; have J4 := B4; have J6 := B6;refine aU ?_;intro w5 g7 (B7 : aq _ _ _ (aM .u64 (me 80))) YY ex;replace F := F.ext ex;refine af (ag rfl rfl (by rw [bf, Lng.cH]; kernel_rfl) B7 (by rw [bf, bf, Lng.cH]; rfl) (cZ _ _)) rfl ?_;rintro _ w6 ⟨rfl, D7, cg⟩;replace F := F.aw cg YY; replace E := E0.ext F; replace J3 := J3.ext F; replace J4 := J4.ext F; replace J6 := J6.ext F; have Zk := F.size;refine aU ?_;intro w7 g8 (B8 : aq _ _ _ (aM .u64 (me 8))) YU ex;have G := ex;refine af (ag rfl rfl (by rw [bf]; kernel_rfl) B8 (by rw [bf, bf]; rfl) (cZ _ _)) rfl ?_;rintro _ _ ⟨rfl, D8, cg⟩;replace G := G.aw cg YU;refine aU ?_;refine aE (fun n' L wr => ∃ t : Nat, L = [(3, .pointer (cf g3)), (4, .pointer (cf g4)), (6, .pointer (cf g6)), (7, .pointer (cf g7)), (8, .pointer (cf g8)), (18, .int .i64 (t : Int))] ∧ n' = 80 - t ∧ (t ≤ 80 ∧ Ext w6 wr ∧ aq wr g8 294 (aM .u64 (Lng.rounds (Lng.words xs) s t).list))) _ _ ⟨0, rfl, rfl, Om, G, D8⟩ Ls ?_;rintro _ n' L wr ⟨t, rfl, rfl, _, G, D8⟩ YZ;refine aa1 (fun Y0 => ?_) (fun Y0 => ?_)
 ·obtain ⟨R, hR⟩ : ∃ R, R = Lng.rounds (Lng.words xs) s t := ⟨_, rfl⟩
  have hok : R.ok := by rw [hR]; exact Lng.gk _ hs _
  rw [← hR] at D8;obtain ⟨a, b, cc, d, e, f, gg, hh⟩ := R;obtain ⟨la, lb, lc, ld, le, lf, lg, lh⟩ := hok;refine aU ?_;refine aD Kr 6 rfl ?_; intro Zl ex Zm;obtain ⟨G,D8⟩ := aS ex G D8;refine my 0 rfl (bM rfl rfl Tn.u Kr (j := 0) rfl Om) ?_;refine zm [1] ?_;refine my 2 rfl (bM rfl rfl Tn.u Kr (j := 4) rfl Om) ?_;refine zm [3, 4, 5] ?_
  obtain ⟨kt, hkt⟩ : ∃ q, q = Lng.K.getD t 0 := ⟨_, rfl⟩
  obtain ⟨wt, hwt⟩ : ∃ q, q = (Lng.words xs).getD t 0 := ⟨_, rfl⟩
  obtain ⟨T, hT⟩ : ∃ T, T = Lng.T1 ⟨a, b, cc, d, e, f, gg, hh⟩ kt wt := ⟨_, rfl⟩
  obtain ⟨U, hU⟩ : ∃ T, T = Lng.T2 ⟨a, b, cc, d, e, f, gg, hh⟩ := ⟨_, rfl⟩
  refine aD Kr 31 rfl ?_; intro Zn ex Zo;obtain ⟨G,D8⟩ := aS ex G D8;refine my 0 rfl (bM rfl rfl Tn.u Kr (j := 7) rfl Om) ?_;refine zm [1, 2, 4, 7, 11] ?_;refine my 12 rfl (bM rfl rfl Tn.u Kr (j := 5) rfl Om) ?_;refine zm [13] ?_;refine my 14 rfl (cT rfl rfl rfl) ?_;refine zm [15] ?_;refine my 16 rfl (M5 rfl rfl rfl) ?_;refine my 17 rfl (bM rfl rfl Tn.u Kr (j := 6) rfl Om) ?_;refine zm [18] ?_;refine my 19 rfl (cT rfl rfl rfl) ?_;refine my 20 rfl (bO rfl rfl (Kd e f gg le lf lg)) ?_;refine zm [22, 23] ?_;refine my 24 rfl (ah rfl Tn.u rfl ((J4.ext G).get (v := .int .u64 (kt : Nat)) (by rw [hkt]; exact qf _ (by show t < 80; omega)))) ?_;refine zm [26, 27] ?_;refine my 28 rfl (ah rfl Tn.u rfl ((D7.ext G).get (v := .int .u64 (wt : Nat)) (by rw [hwt]; exact qf _ (by rw [Lng.cH]; omega)))) ?_;refine bC 3 rfl func269 rfl (dU e 14 _ le Om Om) ?_;rintro e w9 ⟨rfl, ex⟩;obtain ⟨G,D8⟩ := aS ex G D8;refine aU ?_;refine bC 5 rfl func269 rfl (dU e 18 _ le Om Om) ?_;rintro e w9 ⟨rfl, ex⟩;obtain ⟨G,D8⟩ := aS ex G D8;refine aU ?_;refine my 6 rfl (bO rfl rfl rfl) ?_;refine bC 8 rfl func269 rfl (dU e 41 _ le Om Om) ?_;rintro e w9 ⟨rfl, ex⟩;obtain ⟨G,D8⟩ := aS ex G D8;refine aU ?_;refine my 9 rfl (bO rfl rfl (vM _ _ _ (Lng.ba le Om) (Lng.ba le Om) (Lng.ba le Om))) ?_;refine my 10 rfl (aO rfl rfl rfl) ?_;refine my 21 rfl (aO rfl rfl rfl) ?_;refine my 25 rfl (aO rfl rfl rfl) ?_;refine my 29 rfl (Y.as (aO rfl rfl rfl) (congrArg (Value.int .u64) (show _ = ((T % 18446744073709551616 : Nat) : Int) from by rw [kN, kN, kN, kN, hT]; simp only [Lng.T1, Lng.S1]; omega))) ?_;refine zm [30] ?_;refine aD Kr 25 rfl ?_; intro Zp ex Zq;obtain ⟨G,D8⟩ := aS ex G D8;refine zm [0, 2, 5, 8] ?_;refine my 9 rfl (bM rfl rfl Tn.u Kr (j := 1) rfl Om) ?_;refine zm [10] ?_;refine my 11 rfl (cT rfl rfl rfl) ?_;refine zm [12] ?_;refine my 13 rfl (bM rfl rfl Tn.u Kr (j := 2) rfl Om) ?_;refine zm [14] ?_;refine my 15 rfl (cT rfl rfl rfl) ?_;refine my 16 rfl (bO rfl rfl rfl) ?_;refine my 17 rfl (bM rfl rfl Tn.u Kr (j := 1) rfl Om) ?_;refine zm [18] ?_;refine my 19 rfl (bM rfl rfl Tn.u Kr (j := 2) rfl Om) ?_;refine zm [20] ?_;refine my 21 rfl (cT rfl rfl rfl) ?_;refine my 22 rfl (bO rfl rfl (Ia a b cc la lb lc)) ?_;refine bC 1 rfl func269 rfl (dU a 28 _ la Om Om) ?_;rintro e w9 ⟨rfl, ex⟩;obtain ⟨G,D8⟩ := aS ex G D8;refine aU ?_;refine bC 3 rfl func269 rfl (dU a 34 _ la Om Om) ?_;rintro e w9 ⟨rfl, ex⟩;obtain ⟨G,D8⟩ := aS ex G D8;refine aU ?_;refine my 4 rfl (bO rfl rfl rfl) ?_;refine bC 6 rfl func269 rfl (dU a 39 _ la Om Om) ?_;rintro e w9 ⟨rfl, ex⟩;obtain ⟨G,D8⟩ := aS ex G D8;refine aU ?_;refine my 7 rfl (bO rfl rfl (vM _ _ _ (Lng.ba la Om) (Lng.ba la Om) (Lng.ba la Om))) ?_;refine my 23 rfl (Y.as (aO rfl rfl rfl) (congrArg (Value.int .u64) (show _ = ((U % 18446744073709551616 : Nat) : Int) from by rw [kN, hU]; simp only [Lng.T2, Lng.S0]; omega))) ?_;refine zm [24] ?_;refine aD Kr 3 rfl ?_; intro Zr ex Zs;obtain ⟨G,D8⟩ := aS ex G D8;refine dF 0 rfl (fun _ => Ic (s := 1) rfl rfl Tn.u Kr (j := 1) rfl Om) ?_;refine dF 1 rfl (fun _ => IN (s := 1) rfl rfl Tn.u Kr (j := 7) rfl Om) ?_;refine aR 2 Kr ?_; refine bE rfl (iy rfl rfl Tn.u Kr D8 (D8.at 0 _ (BO .u64 [a, b, cc, d, e, f, gg] [hh])) rfl (Nat.le_refl 8) oN) rfl ?_;rintro _ _ ⟨rfl, F8, cg⟩;refine ⟨.inl rfl, ?_⟩;replace G := G.aw cg YU;refine au 5 ?_;refine ak (bM rfl rfl Tn.u Kr (j := 4) rfl Om) ?_;refine au 2 ?_;refine ak (aO rfl rfl rfl) ?_;refine ak (bM rfl rfl Tn.u Kr (j := 4) rfl Om) ?_;refine af (az rfl rfl rfl Kr F8 (by show 4 < 8; omega)) rfl ?_;rintro _ _ ⟨rfl, H8, cg⟩;replace G := G.aw cg YU;refine au 5 ?_;refine ak (aO rfl rfl rfl) ?_;refine ak (bM rfl rfl Tn.u Kr (j := 0) rfl Om) ?_;refine af (az rfl rfl rfl Kr H8 (by show 0 < 8; omega)) rfl ?_;rintro _ Y2 ⟨rfl, I8, cg⟩;replace G := G.aw cg YU;refine au 7 ?_;refine ae ?_;have e1 : Lng.rounds (Lng.words xs) s (t + 1) = Lng.sH ⟨a, b, cc, d, e, f, gg, hh⟩ kt wt := by rw [hkt, hwt]; show Lng.sH (Lng.rounds (Lng.words xs) s t) _ _ = _; rw [← hR]
  have I9 : aq Y2 g8 294 (aM .u64 (Lng.rounds (Lng.words xs) s (t + 1)).list) := by rw [e1]; exact I8.congr (DW (by rw [kN, ← hT]; omega) (by rw [kN, ← hT, ← hU]; omega))
  refine YZ _ _ ⟨t + 1, rfl, rfl, Om, G, I9⟩ Om Ls
 obtain rfl : t = 80 := Om
 obtain ⟨m, hm⟩ : ∃ m, m = (Lng.rounds (Lng.words xs) s 80).list := ⟨_, rfl⟩
 have YV : s.list.length = m.length := by rw [hm, lA, lA]
 have Y3 := lA s;have okl := SV hs;have hfin : (Lng.step s xs).list = Lng.fP s.list m 8 := by rw [hm]; exact Cl s xs
 rw [← hm] at D8;have C3 := J3.ext G; have C6 := J6.ext G; replace E := E.ext G
 obtain ⟨l, hl⟩ : ∃ l, l = s.list := ⟨_, rfl⟩
 rw [← hl] at C3 okl Y3 YV hfin;refine aU ?_;refine aE (fun n' L wx => ∃ k : Nat, L = [(3, .pointer (cf g3)), (6, .pointer (cf g6)), (8, .pointer (cf g8)), (92, .int .i64 (k : Int))] ∧ n' = 8 - k ∧ (k ≤ 8 ∧ Ext w wx ∧ aq wx g3 294 (aM .u64 (Lng.fP l m k)) ∧ aq wx g6 294 (aM .u64 (me 8)) ∧ aq wx g8 294 (aM .u64 m))) _ _ ⟨0, rfl, rfl, Om, E, (by rw [Lng.nB]; exact C3), C6, D8⟩ Ls ?_;rintro _ n' L wx ⟨k, rfl, rfl, _, E, C3, C6, D8⟩ Za;refine aa1 (fun YW => ?_) (fun YW => ?_)
 ·refine aU ?_
  obtain ⟨p, hp⟩ : ∃ p, p = l.getD k 0 := ⟨_, rfl⟩
  obtain ⟨q, hq⟩ : ∃ q, q = m.getD k 0 := ⟨_, rfl⟩
  have hkl : k < l.length := Om
  have hml := Lng.mI YV (k := k) Om;have x1 : (aM .u64 (Lng.fP l m k))[0 + k]? = some (.int .u64 (p : Nat)) := by rw [qf _ Om, Lng.po YV hkl, hp]
  have x2 : (aM .u64 m)[0 + k]? = some (.int .u64 (q : Nat)) := by rw [qf _ Om, hq]
  refine aD Kr 9 rfl ?_; intro Zb ex Zc;obtain ⟨E,C3,C6,D8⟩ := bG ex E C3 C6 D8;refine zm [0, 1] ?_;refine my 2 rfl (ah rfl Tn.u rfl (C3.get x1)) ?_;refine zm [3, 4] ?_;refine my 5 rfl (ah rfl Tn.u rfl (D8.get x2)) ?_;refine dF 6 rfl (fun _ => Y.as (aO rfl rfl rfl) (congrArg (Value.int .u64) (show _ = (((p + q) % 18446744073709551616 : Nat) : Int) from by rw [kN]; omega))) ?_;refine zm [7] ?_;refine aR 8 Kr ?_; refine bE rfl (az rfl rfl rfl Kr C3 (Array.getElem?_eq_some_iff.1 x1).1) rfl ?_;rintro _ _ ⟨rfl, C9, cg⟩;refine ⟨.inl rfl, ?_⟩;replace C6 := C6.aw cg Om; replace D8 := D8.aw cg Om; replace E := E.aw cg YX; rw [Nat.zero_add, gu, hp, hq, Lng.qn YV hkl] at C9;refine au 8 ?_;refine ae ?_;refine Za _ _ ⟨k + 1, rfl, rfl, Om, E, C9, C6, D8⟩ Om Ls
 obtain rfl : k = 8 := Om
 rw [← hfin] at C3
 obtain ⟨S, hS⟩ : ∃ S, S = Lng.step s xs := ⟨_, rfl⟩
 rw [← hS] at C3;refine au 8 ?_;refine af (ag rfl rfl (by rw [bf]; kernel_rfl) C6 (by rw [bf, bf]; rfl) (cZ _ _)) rfl ?_;rintro _ _ ⟨rfl, Zd, cg⟩;replace E := E.aw cg Om;refine aU ?_;refine aa4 rfl Zd (by rw [bf]; rfl) ?_;exact ⟨by rw [hS], E⟩
end
section
open Go.RowKit Tryz
section
variable {k : Nat} {a : Act}
theorem FL {row : String} {R : Value → aa9 → Prop} (h : Rows P row args w R) : RowsIn Fence.wide n P row args w R :=
 fun c cs _ => let ⟨v, w', r, s⟩ := h c cs; ⟨v, w', r, stepsIn_wide.2 s⟩
theorem FR {o : Oper} {next next' : Act → aa9 → Prop} (hn : ∀ a w, next a w → next' a w) : ∀ {r : Result Next}, o.upon P a next Q r → o.uponIn (Fence.wide.inRound k) n P a next' Q r
  | .ok (.value v) w', h => hn _ _ h
  | .ok .skip w', h => hn _ _ h
  | .ok (.defer d) w', h => hn _ _ h
  | .ok (.enter f args) w', h => by refine ⟨fun e => by simp [Fence.wide] at e, CallsIn.inRound k (callsIn_wide.2 (Calls.mono h ?_))⟩;grind
  | .ok (.row row args) w', h => ⟨fun e => by simp [Fence.wide] at e, (FL (h.mono fun v YU hr => hn _ _ hr) : RowsIn Fence.wide (n - 1) P row args w' _)⟩
  | .halt (.panic v) w', h => h
theorem yn (hQ : ¬ LetsOut Q) : ∀ {l : List Oper} {a : Act} {w : aa9}, (∀ o ∈ l, ∀ c, o.op ≠ .defer c) → wpList P ops Q l a w → wpListIn (Fence.wide.inRound k) n P ops Q l a w
  | [], a, w, _, h => h
  | o :: l, a, w, hd, h => by
    have ih := fun a w => @yn hQ l a w (fun o ho => hd o (List.mem_cons_of_mem _ ho));unfold wpList at h;unfold wpListIn;split at h
    · rename_i hw
      rw [if_pos hw];rcases h with h | h
      · refine ⟨fun _ _ => trivial, ?_⟩
        rw [show (Fence.wide.inRound k).round = some k from rfl, Oper.semAt_some k a.eval o (hd o (List.mem_cons_self ..))];exact FR ih h
      exact absurd h.2 hQ
    rename_i hw;rw [if_neg hw];exact ⟨fun _ _ => trivial, ih _ _ h⟩
end
def pV : Op → Bool
 | .defer _ => false
 | _ => true
theorem CW {α : Type} {Kp : aa9 → aa9 → Prop} {I : List α → aa9 → Prop} {Ix : Code → List α → aa9 → Prop} {xs : List α} : ¬ LetsOut (Exit.inBlock b (ownPostG B Kp I Ix xs W)) := fun ⟨_, _, h⟩ => h
theorem NO {α : Type} {g : Operand} {p r0 r1 gf M : Nat} {enc : α → Value} {Kp : aa9 → aa9 → Prop} {S Sp : List α → Prop}
  (hn : 1 ≤ n) (hg : ev L g = some (.func (.func gf) #[] lb)) (eg : ∀ args w, (callFunc gf args).run P w = .ok (.enter gf args) w)
  (hseq : SeqStopsK Fence.wide (n - 1) P gf lb (fun v => #[enc v]) Kp S Sp M w)
  (hKt : ∀ {A B C : aa9}, Kp A B → Kp B C → Kp A C) (hKb : ∀ (W : aa9) (l : Nat) (o o' : Obj), w.heap.size ≤ l → W.heap[l]? = some o → o.isCells = false → o.isWalk = false → Kp W (W.putObj l o'))
  (I : List α → aa9 → Prop) (hI : OwnFrom w.heap.size I) (h0 : I [] w) (hp : Nat.ble (p + 1) N.n = true) (hx : Nat.ble (x + 1) N.n = true) (hdl : l.all (fun o => pV o.op) = true)
  (hbody : ∀ (Q' : Exit → Act → aa9 → Prop) (pre : List α) (v : α) (W : aa9), I pre W → pre.length < M → (∀ {N' : Nd} {L' : List (Nat × Value)} {W' : aa9}, KeepsFrom w.heap.size W W' → Kp W W' → I (pre ++ [v]) W' → WQ Q' .normal N' L' W') → WL P l.toArray Q' l ⟨N.n, []⟩ ((x, enc v) :: (p, enc v) :: L) W)
  (hdone : ∀ (D : Nat) (xs : List α) (W : aa9), w.heap.size ≤ D → S xs → I xs W → W.heap[D]? = some (.deferred (some [])) → WQ Q .normal ⟨N.n, { target := .collected D, args := #[] } :: N.ds⟩ L W) :
  WC P Q (.rangeFunc g #[p] (.region r0 #[⟨some x, .assign (.tmp p), YX, YV, YU, none⟩] false) (.block b (.region r1 l.toArray false))) N L w := by
 intro a ha;rw [← wpIn_wide (n := n)];have YY : p < a.tmps.size := by rw [ha.size]; exact Nat.le_of_ble_eq_true hp
 have fr : ∀ v, Fr ⟨N.n, []⟩ ((x, enc v) :: (p, enc v) :: L) { tmps := (a.tmps.setIfInBounds p (enc v)).setIfInBounds x (enc v), defers := [] } := fun v => by
  have h1 : Fr ⟨N.n, []⟩ L { tmps := a.tmps, defers := [] } := ⟨ha.size, rfl, ha.has⟩
  exact (h1.put hp (enc v)).put hx (enc v)
 refine wpIn_rangeFunc_ownG rfl hn (ha.ev hg) trivial eg hseq hKt hKb (Below.refl _ _) (fun _ => rfl) I (fun _ _ _ => False) hI (fun _ _ _ _ _ hs _ _ => hs) h0 (fun v => { tmps := (a.tmps.setIfInBounds p (enc v)).setIfInBounds x (enc v), defers := [] }) ?_ ?_ ?_ ?_
 ·intro k v W _ hK;refine wpIn_region_list ?_;refine wpListIn_plain rfl fun K' YZ => ?_;refine ⟨fun _ _ => trivial, ?_⟩;rw [show (Fence.wide.inRound k).round = some k from rfl, Oper.semAt_some k _ _ (fun c e => by cases e)];have e : ∀ ρ : Operand → Value, (execOp ρ ⟨some x, .assign (.tmp p), YX, YV, YU, none⟩).run P W = .ok (.value (ρ (.tmp p))) W := fun ρ => by simp [execOp]
  rw [e];refine YZ _ _ ?_;simpa [wpListIn, Act.put, Act.eval, YY, Exit.then] using hK
 ·intro k pre v W YW hl;refine wpIn_block (wpIn_region_lit (yn CW ?_ ?_))
  ·intro o ho c e;have := List.all_eq_true.1 hdl o ho;rw [e] at this;cases this
  exact hbody _ pre v W YW hl (fun h1 h2 h3 _ _ => ⟨h1, h2, h3⟩) _ (fr v)
 ·intro D xs W hD hS YW hK;exact hdone D xs W hD hS YW hK _ ⟨ha.size, by rw [ha.defers], ha.has⟩
 grind
/-! A function that holds such a loop: what it owes where it returns. -/
section
variable {R : Ending → aa9 → Prop}
theorem na (n N : Nat) (hf : P.funcs[f]? = some fn) (hb : fn.body = some c) (hN : fn.ntmps = N) (hsz : Nat.ble args.size N = true)
  (h : ∀ Q : Exit → Act → aa9 → Prop, (∀ {e : Exit} {a : Act} {w : aa9}, bodyPostM Fence.wide n P fn R e a w → Q e a w) → WC P Q c ⟨N, []⟩ (gF 0 args.toList) w) : Calls P f args w R := by
 subst hN;exact (callsIn_wide (n := n)).1 (callsIn_of_wp_marks hf hb trivial (wpIn_wide.2 (h _ (fun h => h) _ (y5 hsz))))
theorem CL (n N : Nat) {t : Tmp} (hf : P.funcs[f]? = some fn) (hb : fn.body = some c) (hN : fn.ntmps = N) (hr : fn.results = #[.tmp t]) (hsz : Nat.ble args.size N = true)
  (h : ∀ Q : Exit → Act → aa9 → Prop, (∀ {N : Nat} {L : List (Nat × Value)} {w : aa9} {v : Value}, look L t = some v → R (.returned v) w → WQ Q .ret (⟨N, []⟩ : Nd) L w) →
   (∀ {N D : Nat} {L : List (Nat × Value)} {w : aa9} {v : Value}, look L t = some v → w.heap[D]? = some (.deferred (some [])) → R (.returned v) (w.putObj D (.deferred none)) → WQ Q .ret (⟨N, [{ target := .collected D, args := #[] }]⟩ : Nd) L w) → WC P Q c ⟨N, []⟩ (gF 0 args.toList) w) : Calls P f args w R :=
 na n N hf hb hN hsz fun Q hQ => h Q
  (fun hv hR a ha => hQ (by
   show LeavesInM _ _ _ _ _ _ a.defers _ _;rw [ha.defers]
   exact ⟨_, results_tmp hr _ _ _, by rw [cI (ha.has _ _ hv)]; exact hR⟩))
  (fun hv hK hR a ha => hQ (by
   show LeavesInM _ _ _ _ _ _ a.defers _ _;rw [ha.defers];refine ⟨by simp, .inl ⟨_, _, rfl, run_takeDeferred hK, ?_⟩⟩
   exact ⟨_, results_tmp hr _ _ _, by rw [cI (ha.has _ _ hv)]; exact hR⟩))
end
theorem za {P : Program} {w : aa9} {f : FuncId} {fn : Func} {c : Code} {args : Array Value} {R : Ending → aa9 → Prop} {ty : TypeId} {s : Nat} {d : TypeDesc} (n N : Nat) {u : Tmp} (hf : P.funcs[f]? = some fn) (hb : fn.body = some c) (hN : fn.ntmps = N) (hr : fn.results = #[.cell u ty]) (hu : P.underlying ty = some d)
  (hd : (match d with | .struct _ | .array _ _ => true | _ => false) = true) (hs : (P.info? ty).map (·.size) = some s) (hsz : Nat.ble args.size N = true)
  (h : ∀ Q : Exit → Act → aa9 → Prop, (∀ {N D : Nat} {L : List (Nat × Value)} {w : aa9} {g : Nat} {e : TypeId} {cs : Array Value}, look L u = some (.pointer (cf g)) → w.heap[D]? = some (.deferred (some [])) → aq w g e cs → cs.size = s → R (.returned (.agg cs)) (w.putObj D (.deferred none)) →
   WQ Q .ret (⟨N, [{ target := .collected D, args := #[] }]⟩ : Nd) L w) → WC P Q c ⟨N, []⟩ (gF 0 args.toList) w) : Calls P f args w R :=
 na n N hf hb hN hsz fun Q hQ => h Q
  (fun {N D L w g e cs} hv hK hg hz hR a ha => hQ (by
   show LeavesInM _ _ _ _ _ _ a.defers _ _;rw [ha.defers];refine ⟨by simp, .inl ⟨_, _, rfl, run_takeDeferred hK, ?_⟩⟩;have hne : g ≠ D := fun e' => by subst e'; rw [show w.heap[g]? = _ from hg] at hK; cases hK
   have YU : aq (w.putObj D (.deferred none)) g e cs := (World.putObj_heap_other hne).trans hg
   exact ⟨_, results_cell_row hr _ _ _ _ _ _ _ (cI (ha.has _ _ hv)) YU hu hd (by grind), hR⟩))
/-! An iterator's region that calls yield. -/
def Og (n : Nat) (P : Program) (ops : Array Oper) (Q : Exit → Act → aa9 → Prop) (l : List Oper) (N : Nd) (L : List (Nat × Value)) (w : aa9) : Prop := ∀ a, Fr N L a → wpListIn Fence.wide n P ops Q l a w
theorem oB (n : Nat) (h : Og n P l.toArray Q l N L w) : WC P Q (.region id l.toArray false) N L w := fun a ha => (wpIn_wide (n := n)).1 (wpIn_region_lit (h a ha))
theorem wQ (h : WQ Q .normal N L w) : Og n P ops Q [] N L w := h
theorem dN {op : Op} (h : Y P L w op ty v) (hd : Nat.ble (d + 1) N.n = true) (hr : Og n P ops Q rest N ((d, v) :: L) w) :
  Og n P ops Q (⟨some d, op, ty, pos, after, none⟩ :: rest) N L w := by
 intro a ha;refine wpListIn_plain rfl fun K hK => ⟨fun _ _ => trivial, ?_⟩;rw [show Fence.wide.round = none from rfl, Oper.semAt_none, h a.eval (fun _ _ hx => ha.ev hx) w (Ext.refl w)];exact hK _ _ (hr _ (ha.put hd v))
theorem vZ {x : Operand} {ats : Array TypeId} {R : Ending → aa9 → Prop} (hx : ev L x = some (.func (.yield lp) #[] #[])) (hy : ev L y = some u)
  (h : YieldAt Fence.wide (n - 1) P lp #[u] w R) (hd : Nat.ble (d + 1) N.n = true) (hr : ∀ e w', R e w' → ∃ v, e = .returned v ∧ Og n P ops Q rest N ((d, v) :: L) w') :
  Og n P ops Q (⟨some d, .call { callee := .value x, args := #[y], argTypes := ats }, ty, pos, after, none⟩ :: rest) N L w := by
 intro a ha;refine wpListIn_plain rfl fun K hK => ⟨fun _ _ => trivial, ?_⟩;obtain ⟨fn, tmps, assign, body, YU, hR⟩ := h;rw [show Fence.wide.round = none from rfl, Oper.semAt_none]
 have e : (execOp a.eval ⟨some d, .call { callee := .value x, args := #[y], argTypes := ats }, ty, pos, after, none⟩).run P w = .ok (.round lp fn tmps assign body) w := by simp [execOp, resolve, invoke, Deferred.ofValue, ha.ev hx, ha.ev hy, YU]
 rw [e];refine ⟨fun e => by simp [Fence.wide] at e, hR.mono ?_⟩;intro e w' YV;obtain ⟨v, rfl, hv⟩ := hr e w' YV;exact hK _ _ (hv _ (ha.put hd v))
theorem oE {F : Fence} {m : Nat} {l : Nat} {Rt Rf : aa9 → Prop} (h : YieldAt F m P l args W fun e W' => (e = .returned (.bool true) ∧ Rt W') ∨ (e = .returned (.bool false) ∧ Rf W')) :
  YieldAt F m P l args W fun e W' => ∃ b, e = .returned (.bool b) ∧ (b = true → Rt W') ∧ (b = false → Rf W') := by
 obtain ⟨fn, tmps, assign, body, hy, hR⟩ := h;refine ⟨fn, tmps, assign, body, hy, hR.mono ?_⟩;grind
theorem BY {x z u : Operand} {o c' m : Nat} {b d : Int} (hx : ev L x = some (.slice (some ⟨g, o, none⟩) n c')) (hy : ev L y = some (.int k a)) (hz : ev L z = some (.int k2 b)) (hv : ev L u = some (.int k3 d)) (hu : P.underlying t = some (.slice e)) (hs : (P.info? e).map (·.size) = some s) (ha : a = (j : Int)) (YU : b = (h : Int)) (hd : d = (m : Int)) (hj : j ≤ h) (hh : h ≤ m) (hm : m ≤ c') (hjm : j < m) :
  Y P L w (.slice t x (some y) (some z) (some u)) ty (.slice (some ⟨g, o + j * s, none⟩) (h - j) (m - j)) := fun ρ hρ w' _ _ _ _ _ => by
 subst ha; subst YU; subst hd
 have hb : ((Instr.sliceBounds true n c' (some (.int k j)) (some (.int k2 h)) (some (.int k3 m))).run P w') = .ok (j, h, m) w' := by simp [Instr.sliceBounds, Instr.sliceBound, asIntOf, hj, hh, hm]
 have hne : ¬ (m = j) := Om
 simp [execOp, hρ _ _ hx, hρ _ _ hy, hρ _ _ hz, hρ _ _ hv, Instr.sliceAt, Instr.slice, run_underlying hu, hb, bz hs, hne, Addr.add]
end
open Go.RowKit Tryz
attribute [local irreducible] Ef WC WF WK WL WM WN WQ Y cu db
def yi (g off K j : Nat) : Value := .slice (some ⟨g, off + K * j, none⟩) K K
def xn (b1 b2 : Nat) (W W' : aa9) : Prop := W.heap.size ≤ W'.heap.size ∧ W'.heap[b1]? = W.heap[b1]? ∧ W'.heap[b2]? = W.heap[b2]?
theorem xn.trans {A B : aa9} (h : xn b1 b2 A B) (k : xn b1 b2 B C) : xn b1 b2 A C := ⟨Nat.le_trans h.1 k.1, k.2.1.trans h.2.1, k.2.2.trans h.2.2⟩
theorem xn.UQ {A B : aa9} (h : xn b1 b2 A B) (D : aq A b1 t cs) : aq B b1 t cs := h.2.1.trans D
theorem xn.Vn {A B : aa9} (h : xn b1 b2 A B) (D : aq A b2 t cs) : aq B b2 t cs := h.2.2.trans D
theorem ig {A B : aa9} (h : Ext A B) : A.grownBy B none := ⟨h.os, h.tape, h.output, h.size, fun k hk _ => h.block k hk⟩
theorem Cu (n l g off c K m b1 b2 : Nat) (J Jx : List (Fin m) → aa9 → Prop) (w : aa9) (hK : 1 ≤ K) (hc : K * m ≤ c) (hm : K * m ≤ 70368744177664) (hab : AbidesFrom w.heap.size J)
  (C1 : aq w b1 23 #[.slice (some ⟨g, off, none⟩) (K * m) c]) (C2 : aq w b2 3 #[.int .i64 (K : Int)])
  (hY : ∀ pre x W1, J pre W1 → pre.length < m → YieldAt Fence.wide (n - 1) Tryz.prog l #[yi g off K x.val] W1 fun e W' => (e = .returned (.bool true) ∧ J (pre ++ [x]) W' ∧ xn b1 b2 W1 W') ∨ (e = .returned (.bool false) ∧ Jx (pre ++ [x]) W'))
  (h0 : J [] w) :
  Ct 228 #[.func (.yield l) #[] #[], .pointer (cf b1), .pointer (cf b2)] w fun e W' => (∃ v, e = .returned v) ∧ ((∃ xs, xs = List.finRange m ∧ J xs W') ∨ (∃ pre : List (Fin m), True ∧ Jx pre W')) := by
 refine eX 31 func228 ?_;intro _ aa4;refine aU ?_;refine aE (fun n' L wr => ∃ i : Nat, L = [(0, .func (.yield l) #[] #[]), (1, .pointer (cf b1)), (2, .pointer (cf b2)), (4, .int .i64 ((K * i : Nat) : Int))] ∧ n' = m - i ∧ (i ≤ m ∧ J ((List.finRange m).take i) wr ∧ aq wr b1 23 #[.slice (some ⟨g, off, none⟩) (K * m) c] ∧ aq wr b2 3 #[.int .i64 (K : Int)])) _ _ ⟨0, rfl, rfl, Om, h0, C1, C2⟩ Ls ?_;rintro _ n' L wr ⟨i, rfl, rfl, _, hJ, D1, D2⟩ YV;refine aa1 (fun YW => ?_) (fun YW => ?_)
 ·have hki : K * i < K * m := Om
  have hlt : i < m := Nat.lt_of_mul_lt_mul_left hki;have hge : K * i + K ≤ K * m := by rw [← Nat.mul_succ]; exact Nat.mul_le_mul_left _ hlt
  refine aU ?_;refine aD Kr 7 rfl ?_; intro YY ex YZ;obtain ⟨D1,D2⟩ := aS ex D1 D2;replace hJ := hab _ _ _ none hJ (ig ex) (fun r e => by cases e);refine zm [0, 1, 2] ?_;refine my 3 rfl (oI (s := 1) rfl rfl Tn.u Kr (j := K * i) rfl Om) ?_;refine zm [4] ?_;refine my 5 rfl (Y.as (EC rfl rfl) (congrArg (Value.int .i64) (if_neg Om))) ?_;refine BL [6] ?_;refine au 6 ?_;refine oB (n) ?_;refine dN (aL rfl) rfl ?_;refine dN (ah rfl underlying23 rfl (D1.get (i := 0) rfl)) rfl ?_;refine dN (aL rfl) rfl ?_;refine dN (aL rfl) rfl ?_;refine dN (aL rfl) rfl ?_;refine dN (aO rfl rfl (bj Om Om)) rfl ?_;refine dN (aL rfl) rfl ?_;refine dN (aL rfl) rfl ?_;refine dN (aO rfl rfl (bj Om Om)) rfl ?_;refine dN (Y.as (BY (s := 1) rfl rfl rfl rfl underlying23 Kr (j := K * i) (h := K * i + K) (m := K * i + K) rfl Om Om Om Om Om Om) (show _ = yi g off K i from by unfold yi; rw [Nat.mul_one, Nat.add_sub_cancel_left])) rfl ?_;refine vZ rfl rfl ((oE (hY ((List.finRange m).take i) ⟨i, hlt⟩ _ hJ (by grind)))) rfl ?_;rintro e _ ⟨_, rfl, hbt, hbf⟩;refine aU ?_;refine dN (pY rfl) rfl ?_;refine wQ ?_;refine aU ?_;refine bw rfl (fun YU => ?_) (fun YU => ?_)
  ·refine aU ?_;exact aa4 (.inl rfl) ⟨⟨_, rfl⟩, .inr ⟨_, trivial, hbf (by simpa using YU)⟩⟩
  obtain ⟨YX, hk⟩ := hbt (by simpa using YU);replace D1 := hk.UQ D1;replace D2 := hk.Vn D2;refine au 9 ?_;refine ae ?_;refine YV _ _ ⟨i + 1, rfl, rfl, Om, by rw [List.take_succ_eq_append_getElem (by grind)]; simpa using YX, D1, D2⟩ Om Ls
 refine aU ?_;exact aa4 (.inr rfl) ⟨⟨_, rfl⟩, .inl ⟨_, rfl, by rw [List.take_of_length_le (by rw [List.length_finRange]; exact Nat.le_of_mul_le_mul_left (show K * m ≤ K * i by omega) hK)] at hJ; exact hJ⟩⟩
theorem AL (n g off c K m b1 b2 : Nat) (w : aa9) (hK : 1 ≤ K) (hc : K * m ≤ c) (hm : K * m ≤ 70368744177664)
  (C1 : aq w b1 23 #[.slice (some ⟨g, off, none⟩) (K * m) c]) (C2 : aq w b2 3 #[.int .i64 (K : Int)]) :
  SeqStopsK Fence.wide n Tryz.prog 228 #[.pointer (cf b1), .pointer (cf b2)] (fun x : Fin m => #[yi g off K x.val]) (xn b1 b2) (fun xs => xs = List.finRange m) (fun _ => True) m w :=
 fun l J Jx W hW hJ _ hY h0 => callsIn_wide.2 (Cu n l g off c K m b1 b2 J Jx W hK hc hm hJ (C1.ext hW) (C2.ext hW) hY h0)
theorem IJ (g off c K m : Nat) (w : aa9) (hK : 1 ≤ K) :
  Ct 176 #[.slice (some ⟨g, off, none⟩) (K * m) c, .int .i64 (K : Int)] w fun e w' => ∃ b1 b2, e = .returned (.func (.func 228) #[] #[.pointer (cf b1), .pointer (cf b2)]) ∧ w.heap.size ≤ b1 ∧ w.heap.size ≤ b2 ∧
   aq w' b1 23 #[.slice (some ⟨g, off, none⟩) (K * m) c] ∧ aq w' b2 3 #[.int .i64 (K : Int)] ∧ Ext w w' := by
 have E := Ext.refl w;refine ai 9 func176 ?_;intro _ aa4;refine aU ?_;intro _ g1 B1 YU ex;replace E := E.ext ex;have YV := E.size;refine aU ?_;intro _ g2 B2 _ ex;obtain ⟨E,B1⟩ := aS ex E B1;refine au 15 ?_;refine ak (gC rfl) ?_;refine aU ?_;exact aa4 rfl ⟨g1, g2, rfl, YU, Om, B1, B2, E⟩
def vB (w : aa9) (D : Nat) : Prop := w.heap[D]? = some (.deferred (some []))
theorem vB.lt (h : vB w D) : D < w.heap.size := (Array.getElem?_eq_some_iff.1 h).1
theorem vB.ext (h : vB w D) (k : Ext w w') : vB w' D := (k.block D h.lt).trans h
theorem yY (hg : W.grownBy W' (some g)) (h : g < B) : KeepsFrom B W W' := KeepsFrom.of_grownBy hg (fun j e => by grind)
theorem IC (hg : W.grownBy W' (some g)) (h1 : b1 < W.heap.size) (h2 : b2 < W.heap.size) (n1 : b1 ≠ g) (n2 : b2 ≠ g) : xn b1 b2 W W' :=
 ⟨hg.size, hg.block b1 h1 (fun e => n1 (by injection e)), hg.block b2 h2 (fun e => n2 (by injection e))⟩
theorem su (W : aa9) (l : Nat) (o o' : Obj) (h1 : b1 < l) (h2 : b2 < l) (h : W.heap[l]? = some o) : xn b1 b2 W (W.putObj l o') :=
 ⟨by simp_all, World.putObj_heap_other Om, World.putObj_heap_other Om⟩
theorem enters (hf : P.funcs[f]? = some fn) (hb : fn.body = some c) (hn : (fn.name == "runtime.NumGoroutine") = false) (args : Array Value) (w : aa9) : (callFunc f args).run P w = .ok (.enter f args) w := by
 have YU : ¬ fn.name = "runtime.NumGoroutine" := by simpa using hn
 simp [callFunc, hf, hb, YU]
theorem dH {β : Type} {f : β → Array Value} : OwnFrom B (fun s W => aq W g t (f s)) := fun s W W' row hs hg hr =>
 (grownBy_keeps_cells hg (fun r e => (hr r e).2) hs rfl).trans hs
theorem MQ {β : Type} {xs : Lb} : OwnFrom B (fun (_ : β) W => Bs W A n xs) := fun s W W' row hs hg hr => by
 refine ⟨hs.1, ?_⟩
 rcases hs.2 with h | ⟨b, off, hA, hc⟩
 ·exact .inl h
 exact .inr ⟨b, off, hA, fun j u hj => cell_kept (hc j u hj) hg (fun r e => (hr r e).2)⟩
theorem pH {β : Type} {k : Nat} : OwnFrom B (fun (_ : β) W => k ≤ W.heap.size) := fun _ _ _ _ hs hg _ => Nat.le_trans hs hg.size
end Go.Proofs.YtgfafidlkldeaaaGreat
