/- slices.Clone, Grow (of nil) and Concat, of bytes: what each hands back, in new memory. Lengths up to 2^46. -/
import Derived.Test.YtgfafidlkldeaaaGreatVc
import Derived.Laws.BitsAllLaws
import Derived.IntWalk
import Derived.Lib.SlBytesConst
import Derived.Lib.ConvBytes
import Derived.Lib.SliceRun
import Derived.Lib.AppendZeros
set_option linter.unusedVariables false
set_option linter.unusedSimpArgs false
namespace Go.Proofs.YtgfafidlkldeaaaGreat
variable {ad : Addr} {ps : Array (Nat × Operand)} {aa3 : Array Bool} {after : Array Edge} {ops : Array Oper} {ats ts : Array TypeId} {C Z cells cs cs' cur : Array Value} {b b' : Bool} {s : ByteArray} {Q : Exit → Act → aa9 → Prop} {fn : Func} {f : FuncId} {k' k2 : IntKind} {L : List (Nat × Value)} {l m : List Nat} {rest : List Oper} {vs xs ys : List Value} {base base2 c c' c2 g i j k n n' o off sz x : Nat} {N : Nd} {A A' B : Oa} {op : Op} {y : Operand} {dst : Option Tmp} {P : Program} {q : Prop} {pos : String} {d : TypeDesc} {dT e e2 sT t t' tb ty : TypeId} {old u v z : Value} {w w' w'' w0 : aa9}
section
section
open Go.RowKit
section
variable {x : Operand} {k : IntKind} {a b c : Int}
theorem aL (hx : ev L x = some v) : Y P L w (.move x) ty v := fun ρ hρ w' _ _ _ _ _ => by simp [execOp, hρ _ _ hx]
theorem di (hx : ev L x = some v) : Y P L w (.assign x) ty v := fun ρ hρ w' _ _ _ _ _ => by simp [execOp, hρ _ _ hx]
theorem rH {m : Nat} (hx : ev L x = some (.slice A n m)) (hu : P.underlying t = some (.slice e)) : Y P L w (.call { callee := .builtin .len, args := #[x], argTypes := #[t] }) ty (.int .i64 (n : Int)) := fun ρ hρ w' _ _ _ _ _ => by simp [execOp, resolve, invoke, builtin, hρ _ _ hx, Builtin.len_, run_underlying hu, goInt]
theorem IL (hx : ev L x = some (.string s)) (hu : P.underlying t = some .string) : Y P L w (.call { callee := .builtin .len, args := #[x], argTypes := #[t] }) ty (.int .i64 (s.size : Int)) := fun ρ hρ w' _ _ _ _ _ => by simp [execOp, resolve, invoke, builtin, hρ _ _ hx, Builtin.len_, run_underlying hu, goInt]
theorem EC (hx : ev L x = some (.int k a)) (hy : ev L y = some (.int k' b)) : Y P L w (.call { callee := .builtin .min, args := #[x, y], argTypes := ts }) ty (.int k (if b < a then b else a)) := fun ρ hρ w' _ _ _ _ _ => by simp [execOp, resolve, invoke, builtin, hρ _ _ hx, hρ _ _ hy, Builtin.min_, Builtin.min2]
/-! Tests. -/
theorem fB (hx : ev L x = some (.int k a)) (hy : ev L y = some (.int k b)) : Y P L w (.binOp .lss t x y t') ty (.bool (decide (a < b))) := fun ρ hρ w' _ _ _ _ _ => by simp [execOp, hρ _ _ hx, hρ _ _ hy, eqGuard, binOp, Op.intCmp]
theorem RL (hx : ev L x = some (.int k a)) (hy : ev L y = some (.int k b)) : Y P L w (.binOp .leq t x y t') ty (.bool (decide (a ≤ b))) := fun ρ hρ w' _ _ _ _ _ => by simp [execOp, hρ _ _ hx, hρ _ _ hy, eqGuard, binOp, Op.intCmp]
theorem vP (hx : ev L x = some (.int k a)) (hy : ev L y = some (.int k b)) : Y P L w (.binOp .gtr t x y t') ty (.bool (decide (b < a))) := fun ρ hρ w' _ _ _ _ _ => by simp [execOp, hρ _ _ hx, hρ _ _ hy, eqGuard, binOp, Op.intCmp]
theorem yI (hx : ev L x = some (.int k a)) (hy : ev L y = some (.int k b)) : Y P L w (.binOp .geq t x y t') ty (.bool (decide (b ≤ a))) := fun ρ hρ w' _ _ _ _ _ => by simp [execOp, hρ _ _ hx, hρ _ _ hy, eqGuard, binOp, Op.intCmp]
theorem OF (a b : Int) : (a == b) = decide (a = b) := by grind
theorem Qw (a b : Int) : (a != b) = decide (a ≠ b) := by grind
theorem ez (hx : ev L x = some (.int k a)) (hy : ev L y = some (.int k b)) : Y P L w (.binOp .eql t x y t') ty (.bool (decide (a = b))) := fun ρ hρ w' _ _ _ _ _ => by simp [execOp, hρ _ _ hx, hρ _ _ hy, eqGuard, binOp, Op.intCmp, OF]
theorem kg (hx : ev L x = some (.int k a)) (hy : ev L y = some (.int k b)) : Y P L w (.binOp .neq t x y t') ty (.bool (decide (a ≠ b))) := fun ρ hρ w' _ _ _ _ _ => by simp only [execOp, hρ _ _ hx, hρ _ _ hy, eqGuard, binOp, Op.intCmp, Qw]; simp
theorem Sd {p q : Bool} (hx : ev L x = some (.bool p)) (hy : ev L y = some (.bool q)) (hu : P.underlying t = some .bool) : Y P L w (.binOp .eql t x y t') ty (.bool (p == q)) := fun ρ hρ w' _ _ _ _ _ => by have h := run_eql_bool (P := P) w' t p q hu;simp only [execOp, hρ _ _ hx, hρ _ _ hy, eqGuard];simp [h]
theorem pY {p : Bool} (hx : ev L x = some (.bool p)) : Y P L w (.unOp .not t x) ty (.bool (!p)) := fun ρ hρ w' _ _ _ _ _ => by simp [execOp, hρ _ _ hx, Op.unary]
theorem Y.as (h : Y P L w op ty u) (e : u = v) : Y P L w op ty v := e ▸ h
/-! A test on which the walk parts. -/
section
variable {d : Tmp} {p : Prop} [Decidable p] {b : Bool}
theorem kQ (h : Y P L w op ty (.bool b)) (hd : Nat.ble (d + 1) N.n = true) (ht : b = true → WL P ops Q rest N ((d, .bool true) :: L) w) (hf : b = false → WL P ops Q rest N ((d, .bool false) :: L) w) : WL P ops Q (⟨some d, op, ty, pos, after, none⟩ :: rest) N L w := by
 cases b
 ·exact OT h hd (hf rfl)
 exact OT h hd (ht rfl)
theorem qL (t : Tmp) (hj : (ops[j]?).bind (·.dst) = some t) (hg : look L t = some (.bool b')) (h : Y P L w op ty (.bool b)) (hd : Nat.ble (d + 1) N.n = true) (ht : b = true → WL P ops Q rest N ((d, .bool true) :: L) w) (hf : b = false → WL P ops Q rest N ((d, .bool false) :: L) w) : WL P ops Q (⟨some d, op, ty, pos, after, some (j, b')⟩ :: rest) N L w := by
 cases b
 ·exact GJ t hj hg h hd (hf rfl)
 exact GJ t hj hg h hd (ht rfl)
theorem bL (h : Y P L w op ty (.bool (decide p))) (hd : Nat.ble (d + 1) N.n = true) (ht : p → WL P ops Q rest N ((d, .bool true) :: L) w) (hf : ¬ p → WL P ops Q rest N ((d, .bool false) :: L) w) : WL P ops Q (⟨some d, op, ty, pos, after, none⟩ :: rest) N L w :=
 kQ h hd (fun e => ht (aa2 e)) (fun e => hf (of_decide_eq_false e))
theorem bN (t : Tmp) (hj : (ops[j]?).bind (·.dst) = some t) (hg : look L t = some (.bool b')) (h : Y P L w op ty (.bool (decide p))) (hd : Nat.ble (d + 1) N.n = true) (ht : p → WL P ops Q rest N ((d, .bool true) :: L) w) (hf : ¬ p → WL P ops Q rest N ((d, .bool false) :: L) w) : WL P ops Q (⟨some d, op, ty, pos, after, some (j, b')⟩ :: rest) N L w :=
 qL t hj hg h hd (fun e => ht (aa2 e)) (fun e => hf (of_decide_eq_false e))
theorem ue (i : Nat) (hi : ops[i]? = some ⟨dst, op, ty, pos, after, none⟩) (hfr : iT .any ops aa3 i = true) (h : Y P L w op ty (.bool b)) (hd : gV N dst = true)
  (ht : b = true → WM P ops (fD Q) n (aa3.setIfInBounds i true) N (bB dst (.bool true) L) w) (hf : b = false → WM P ops (fD Q) n (aa3.setIfInBounds i true) N (bB dst (.bool false) L) w) : WM P ops (fD Q) (n + 1) aa3 N L w := by
 cases b
 ·exact QH i hi hfr h hd (hf rfl)
 exact QH i hi hfr h hd (ht rfl)
theorem PS (i : Nat) (hi : ops[i]? = some ⟨dst, op, ty, pos, after, none⟩) (hfr : iT .any ops aa3 i = true) (h : Y P L w op ty (.bool (decide p))) (hd : gV N dst = true)
  (ht : p → WM P ops (fD Q) n (aa3.setIfInBounds i true) N (bB dst (.bool true) L) w) (hf : ¬ p → WM P ops (fD Q) n (aa3.setIfInBounds i true) N (bB dst (.bool false) L) w) : WM P ops (fD Q) (n + 1) aa3 N L w :=
 ue i hi hfr h hd (fun e => ht (aa2 e)) (fun e => hf (of_decide_eq_false e))
end
/-! Numbers. -/
theorem aO (hx : ev L x = some (.int k a)) (hy : ev L y = some (.int k b)) (h : k.wrap (a + b) = c) : Y P L w (.binOp .add t x y t') ty (.int k c) := fun ρ hρ w' _ _ _ _ _ => by simp [execOp, hρ _ _ hx, hρ _ _ hy, eqGuard, binOp, Op.intArith, h]
theorem fG (hx : ev L x = some (.int k a)) (hy : ev L y = some (.int k b)) (h : k.wrap (a - b) = c) : Y P L w (.binOp .sub t x y t') ty (.int k c) := fun ρ hρ w' _ _ _ _ _ => by simp [execOp, hρ _ _ hx, hρ _ _ hy, eqGuard, binOp, Op.intArith, h]
theorem cS (hx : ev L x = some (.int k a)) (hy : ev L y = some (.int k b)) (h : k.wrap (a * b) = c) : Y P L w (.binOp .mul t x y t') ty (.int k c) := fun ρ hρ w' _ _ _ _ _ => by simp [execOp, hρ _ _ hx, hρ _ _ hy, eqGuard, binOp, Op.intArith, h]
theorem dI (hx : ev L x = some (.int k a)) (hy : ev L y = some (.int k b)) (h0 : b ≠ 0) (h : k.wrap (a.tdiv b) = c) : Y P L w (.binOp .quo t x y t') ty (.int k c) := fun ρ hρ w' _ _ _ _ _ => by simp [execOp, hρ _ _ hx, hρ _ _ hy, eqGuard, binOp, Op.intDiv, h0, h]
theorem cR (hx : ev L x = some (.int k a)) (hy : ev L y = some (.int k b)) (h0 : b ≠ 0) (h : a.tmod b = c) : Y P L w (.binOp .rem t x y t') ty (.int k c) := fun ρ hρ w' _ _ _ _ _ => by simp [execOp, hρ _ _ hx, hρ _ _ hy, eqGuard, binOp, Op.intDiv, h0, h]
theorem fX (hx : ev L x = some (.int k a)) (hy : ev L y = some (.int k' b)) (h0 : 0 ≤ b) (h : k.wrap (a * 2 ^ min b.toNat k.bits) = c) : Y P L w (.binOp .shl t x y t') ty (.int k c) := fun ρ hρ w' _ _ _ _ _ => by simp [execOp, hρ _ _ hx, hρ _ _ hy, eqGuard, binOp, shift_shl_any _ _ _ _ h0, h]
theorem cn (hx : ev L x = some (.int k a)) (hy : ev L y = some (.int k' b)) (h0 : 0 ≤ b) (h : a / 2 ^ min b.toNat k.bits = c) : Y P L w (.binOp .shr t x y t') ty (.int k c) := fun ρ hρ w' _ _ _ _ _ => by simp [execOp, hρ _ _ hx, hρ _ _ hy, eqGuard, binOp, shift_shr_any _ _ _ _ h0, h]
theorem cT (hx : ev L x = some (.int k a)) (hy : ev L y = some (.int k b)) (h : bits .and k a b = c) : Y P L w (.binOp .and t x y t') ty (.int k c) := fun ρ hρ w' _ _ _ _ _ => by subst h; simp [execOp, hρ _ _ hx, hρ _ _ hy, eqGuard, binOp, Op.intBits, bits]
theorem jZ (hx : ev L x = some (.int k a)) (hy : ev L y = some (.int k b)) (h : bits .or k a b = c) : Y P L w (.binOp .or t x y t') ty (.int k c) := fun ρ hρ w' _ _ _ _ _ => by subst h; simp [execOp, hρ _ _ hx, hρ _ _ hy, eqGuard, binOp, Op.intBits, bits]
theorem bO (hx : ev L x = some (.int k a)) (hy : ev L y = some (.int k b)) (h : bits .xor k a b = c) : Y P L w (.binOp .xor t x y t') ty (.int k c) := fun ρ hρ w' _ _ _ _ _ => by subst h; simp [execOp, hρ _ _ hx, hρ _ _ hy, eqGuard, binOp, Op.intBits, bits]
theorem Bh (hx : ev L x = some (.int k a)) (hy : ev L y = some (.int k b)) (h : bits .andNot k a b = c) : Y P L w (.binOp .andNot t x y t') ty (.int k c) := fun ρ hρ w' _ _ _ _ _ => by subst h; simp [execOp, hρ _ _ hx, hρ _ _ hy, eqGuard, binOp, Op.intBits, bits]
theorem Ng (hx : ev L x = some (.int k a)) (h : k.wrap (0 - a) = c) : Y P L w (.unOp .neg t x) ty (.int k c) := fun ρ hρ w' _ _ _ _ _ => by subst h; simp only [execOp, hρ _ _ hx, Op.unary, Op.intArith]; simp
theorem M5 (hx : ev L x = some (.int k a)) (hs : k.signed = false) (h : bits .xor k k.max a = c) : Y P L w (.unOp .xor t x) ty (.int k c) := fun ρ hρ w' _ _ _ _ _ => by subst h; simp only [execOp, hρ _ _ hx, Op.unary, Op.intBits, bits, hs]; simp
theorem bc (hx : ev L x = some (.int k a)) (hs : P.underlying t = some d) (hu : P.underlying t' = some (.int k2)) (h : k2.wrap a = c) : Y P L w (.convert t t' x) ty (.int k2 c) := fun ρ hρ w' _ _ _ _ _ => by
 subst h
 have hc : (convert t t' (.int k a)).run P w' = .ok (.int k2 (k2.wrap a)) w' := by unfold convert;simp only [Sem.run_bind, run_underlying hs, run_underlying hu, Result.andThen_ok];cases d <;> rfl
 simp [execOp, hρ _ _ hx, hc]
theorem bJ {p q : Nat} (hp : p < 256) (hq : q < 256) : bits .and .u8 p q = ((p &&& q : Nat) : Int) ∧ bits .or .u8 p q = ((p ||| q : Nat) : Int) ∧ bits .xor .u8 p q = ((p ^^^ q : Nat) : Int) :=
 ⟨by have := u8_and p q Om Om Om Om; grind, by have := u8_or p q Om Om Om Om; grind, by have := u8_xor p q Om Om Om Om; grind⟩
theorem cz {p q : Nat} (hp : p < 18446744073709551616) (hq : q < 18446744073709551616) : bits .and .u64 p q = ((p &&& q : Nat) : Int) ∧ bits .or .u64 p q = ((p ||| q : Nat) : Int) ∧ bits .xor .u64 p q = ((p ^^^ q : Nat) : Int) :=
 ⟨by have := u64_and p q Om Om Om Om; grind, by have := u64_or p q Om Om Om Om; grind, by have := u64_xor p q Om Om Om Om; grind⟩
/-! Addresses. -/
theorem bz (h : (P.info? e).map (·.size) = some n) (w : aa9) : (sizeOf e).run P w = .ok n w := by
 cases hi : P.info? e with
 | none => simp [hi] at h
 | some i => simp [hi] at h; simp [sizeOf, typeInfo, hi, h]
theorem QQ {A : Addr} {m : Nat} {s : Nat} (hx : ev L x = some (.slice (some A) n m)) (hy : ev L y = some (.int k a)) (hu : P.underlying t = some (.slice e)) (hs : (P.info? e).map (·.size) = some s) (ha : a = (j : Int)) (hj : j < n) :
  Y P L w (.indexAddr t x y) ty (.pointer (some (A.add (j * s)))) := fun ρ hρ w' _ _ _ _ _ => by
 subst ha;simp [execOp, hρ _ _ hx, hρ _ _ hy, Instr.indexAt, asIntOf, run_underlying hu, bz hs, hj]
theorem aC {b' m : Nat} (hx : ev L x = some (.slice (some ⟨b', off, none⟩) n m)) (hy : ev L y = some (.int k a)) (hu : P.underlying t = some (.slice e)) (hs : (P.info? e).map (·.size) = some 1) (ha : a = (j : Int)) (hj : j < n) :
  Y P L w (.indexAddr t x y) ty (.pointer (some ⟨b', off + j, none⟩)) := by
 have h := QQ (w := w) (ty := ty) hx hy hu hs ha hj;rw [add_lit, Nat.mul_one] at h;exact h
theorem Ri {A : Addr} {s : Nat} (hx : ev L x = some (.pointer (some A))) (hy : ev L y = some (.int k a)) (hu : P.underlying t = some (.array n e)) (hs : (P.info? e).map (·.size) = some s) (ha : a = (j : Int)) (hj : j < n) :
  Y P L w (.indexAddr t x y) ty (.pointer (some (A.add (j * s)))) := fun ρ hρ w' _ _ _ _ _ => by
 subst ha;simp [execOp, hρ _ _ hx, hρ _ _ hy, Instr.indexAt, asIntOf, run_underlying hu, bz hs, hj, Instr.sureAddr]
theorem bM {b' : Nat} (hx : ev L x = some (.pointer (some ⟨b', off, none⟩))) (hy : ev L y = some (.int k a)) (hu : P.underlying t = some (.array n e)) (hs : (P.info? e).map (·.size) = some 1) (ha : a = (j : Int)) (hj : j < n) :
  Y P L w (.indexAddr t x y) ty (.pointer (some ⟨b', off + j, none⟩)) := by
 have h := Ri (w := w) (ty := ty) hx hy hu hs ha hj;rw [add_lit, Nat.mul_one] at h;exact h
theorem pJ {n j : Nat} {e : TypeId} {cs : Array Value} {v : Value} {d : TypeDesc} (hx : ev L x = some (.agg cs)) (hy : ev L y = some (.int k a)) (hu : P.underlying t = some (.array n e)) (he : P.underlying e = some d) (hd : (match d with | .struct _ | .array _ _ => false | _ => true) = true)
  (hs : (P.info? e).map (·.size) = some 1) (ha : a = (j : Int)) (hj : j < n) (hv : cs[j]? = some v) : Y P L w (.index t x y) ty v := fun ρ hρ w' _ _ _ _ _ => by
 subst ha
 have hagg : (isAgg e).run P w' = .ok false w' := by
  unfold isAgg;rw [Sem.run_bind, run_underlying he w']
  cases d <;> first | rfl | (simp at hd)
 simp [execOp, hρ _ _ hx, hρ _ _ hy, Instr.index, asIntOf, run_underlying hu, bz hs, hj, part, hagg, hv]
theorem ah {ad : Addr} {v : Value} {d : TypeDesc} (hx : ev L x = some (.pointer (some ad))) (hu : P.underlying t = some d) (hd : (match d with | .struct _ | .array _ _ => false | _ => true) = true) (hc : w.cell? ad = some v) : Y P L w (.load t x) ty v := fun ρ hρ w' e _ _ _ _ => by
 have hc' : w'.cell? ad = some v := (e.cell (dR hc)).trans hc
 have hagg : (isAgg t).run P w' = .ok false w' := by
  unfold isAgg;rw [Sem.run_bind, run_underlying hu w']
  cases d <;> first | rfl | (simp at hd)
 simp [execOp, hρ _ _ hx, Instr.loadAt, Instr.sureAddr, loadVar, hagg, hc']
theorem aP {g : Nat} {e : TypeId} {cs : Array Value} {d : TypeDesc} (hx : ev L x = some (.pointer (cf g))) (hu : P.underlying t = some d) (hd : (match d with | .struct _ | .array _ _ => true | _ => false) = true) (hs : (P.info? t).map (·.size) = some cs.size)
  (hg : aq w g e cs) : Y P L w (.load t x) ty (.agg cs) := fun ρ hρ w' ex _ _ _ _ => by
 have hg' : aq w' g e cs := hg.kept ex;have h := run_loadVar_row (P := P) w' g e t cs (0, 0) d hg' hu hd hs;simp [execOp, hρ _ _ hx, Instr.loadAt, Instr.sureAddr, h]
theorem cM {vs : Array Value} (hx : ev L x = some (.tuple vs)) (hv : vs.toList[i]? = some v) : Y P L w (.extract x i) ty v := fun ρ hρ w' _ _ _ _ _ => by
 have hv' : vs[i]? = some v := by simpa using hv
 simp [execOp, hρ _ _ hx, Instr.extract, hv']
theorem NP (hx : ev L x = some (.pointer (some ad))) : Y P L w (.nilCheck x) ty (.pointer (some ad)) := fun ρ hρ w' _ _ _ _ _ => by simp [execOp, hρ _ _ hx]
/-! Cuts of slices. -/
def lZ (A : Oa) (c l s : Nat) : Option Addr := if c = l then A else A.map (·.add (l * s))
theorem oI {s : Nat} (hx : ev L x = some (.slice A n c')) (hy : ev L y = some (.int k a)) (hu : P.underlying t = some (.slice e)) (hs : (P.info? e).map (·.size) = some s) (ha : a = (j : Int)) (hj : j ≤ n) :
  Y P L w (.slice t x (some y) none none) ty (.slice (lZ A c' j s) (n - j) (c' - j)) := fun ρ hρ w' _ _ _ _ _ => by
 subst ha
 have hb : ((Instr.sliceBounds true n c' (some (.int k j)) none none).run P w') = .ok (j, n, c') w' := by simp [Instr.sliceBounds, Instr.sliceBound, asIntOf, hj]
 simp [execOp, hρ _ _ hx, hρ _ _ hy, Instr.sliceAt, Instr.slice, run_underlying hu, hb, bz hs, lZ]
theorem j8 {s : Nat} (hx : ev L x = some (.slice A n c')) (hy : ev L y = some (.int k a)) (hu : P.underlying t = some (.slice e)) (hs : (P.info? e).map (·.size) = some s) (ha : a = (j : Int)) (hj : j ≤ c') :
  Y P L w (.slice t x none (some y) none) ty (.slice A j c') := fun ρ hρ w' _ _ _ _ _ => by
 subst ha
 have hb : ((Instr.sliceBounds true n c' none (some (.int k j)) none).run P w') = .ok (0, j, c') w' := by simp [Instr.sliceBounds, Instr.sliceBound, asIntOf, hj]
 have hA : (if c' = 0 then A else A.map (·.add (0 * s))) = A := by
  split
  ·rfl
  cases A <;> simp [Addr.add]
 simp [execOp, hρ _ _ hx, hρ _ _ hy, Instr.sliceAt, Instr.slice, run_underlying hu, hb, bz hs];grind
theorem ED {z : Operand} {h s : Nat} (hx : ev L x = some (.slice A n c')) (hy : ev L y = some (.int k a)) (hz : ev L z = some (.int k2 b)) (hu : P.underlying t = some (.slice e)) (hs : (P.info? e).map (·.size) = some s) (ha : a = (j : Int)) (hb' : b = (h : Int)) (hj : j ≤ h) (hh : h ≤ c') :
  Y P L w (.slice t x (some y) (some z) none) ty (.slice (lZ A c' j s) (h - j) (c' - j)) := fun ρ hρ w' _ _ _ _ _ => by
 subst ha; subst hb'
 have hb : ((Instr.sliceBounds true n c' (some (.int k j)) (some (.int k2 h)) none).run P w') = .ok (j, h, c') w' := by simp [Instr.sliceBounds, Instr.sliceBound, asIntOf, hj, hh]
 simp [execOp, hρ _ _ hx, hρ _ _ hy, hρ _ _ hz, Instr.sliceAt, Instr.slice, run_underlying hu, hb, bz hs, lZ]
theorem yW {A : Addr} {s : Nat} (hx : ev L x = some (.pointer (some A))) (hu : P.underlying t = some (.array n e)) (hs : (P.info? e).map (·.size) = some s) : Y P L w (.slice t x none none none) ty (.slice (some A) n n) := fun ρ hρ w' _ _ _ _ _ => by simp [execOp, hρ _ _ hx, Instr.sliceAt, Instr.sureAddr, Instr.sliceBounds, run_underlying hu, bz hs, Addr.add]
theorem Bs.lZ {c : Nat} {xs : Lb} (h : Bs w A n xs) (hj : j ≤ n) (hc : n ≤ c) : Bs w (lZ A c j 1) (n - j) (xs.drop j) := by unfold Go.Proofs.YtgfafidlkldeaaaGreat.lZ;rw [Nat.mul_one];exact h.cut hj hc
end
/-! Facts that live on: '.ext'. -/
theorem _root_.Go.RowKit.Below.ext {a b c : aa9} (h : Ext a b) (k : Ext b c) : Ext a c := h.tr k
section
theorem Bs.ext {xs : Lb} (h : Bs w A n xs) (k : Ext w w') : Bs w' A n xs := h.below k
theorem sL.ext {xss : List (List UInt8)} (h : sL w A n xss) (k : Ext w w') : sL w' A n xss := h.below k
theorem aq.ext (h : aq w g t cs) (k : Ext w w') : aq w' g t cs := h.kept k
theorem Nw.ext (h : Nw base w A) (k : Ext w w') : Nw base w' A := fun b o e => by obtain ⟨h1, t, cur, hb⟩ := h b o e; exact ⟨h1, t, cur, aq.ext hb k⟩
theorem At.ext (h : At w A xs) (k : Ext w w') : At w' A xs := h.below k
def Row (w : aa9) (base : Nat) (e : TypeId) (A : Oa) (n c : Nat) (xs : List Value) : Prop := w.ownsRow base e 1 (.slice A n c) n xs
theorem Row.ext (h : Row w base e A n c xs) (k : Ext w w') : Row w' base e A n c xs :=
 World.ownsRow.kept (row := none) h ⟨k.os, k.tape, k.output, k.size, fun j hj _ => k.block j hj⟩ (by grind)
theorem Row.at (h : Row w base e A n c xs) : At w A xs := M1 h
theorem Row.len (h : Row w base e A n c xs) : xs.length = n := by have := h.1; omega
theorem Row.lower (h : Row w base e A n c xs) {b : Nat} (hb : b ≤ base) : Row w b e A n c xs := by
 refine ⟨h.1, ?_⟩
 rcases h.2 with h | ⟨g, cap, cur, hv, hg, r⟩
 ·exact .inl h
 exact .inr ⟨g, cap, cur, hv, Om, r⟩
theorem Row.empty (w : aa9) (base : Nat) (e : TypeId) : Row w base e none 0 0 [] := World.ownsRow_nil _ _ _ _
theorem Row.new (h : aq w g e cs) (hb : base ≤ g) (hn : cs.size = n) (hm : n ≤ maxLen) : Row w base e (cf g) n n cs.toList :=
 ⟨by simp [hn], .inr ⟨g, n, cs, rfl, hb, h, Nat.le_refl _, hm, Om, by rw [List.take_of_length_le (by simp [hn])]⟩⟩
end
variable {x : Operand}
theorem Qs {z : Operand} (hx : ev L z = some (.bool true)) (hy : ev L x = some v) : Y P L w (.pick z x y) ty v := fun ρ hρ w' _ _ _ _ _ => by simp [execOp, hρ _ _ hx, hρ _ _ hy, asBool]
theorem QA {z : Operand} (hx : ev L z = some (.bool false)) (hy : ev L y = some u) : Y P L w (.pick z x y) ty u := fun ρ hρ w' _ _ _ _ _ => by simp [execOp, hρ _ _ hx, hρ _ _ hy, asBool]
/-! Calls. -/
section
variable {xs : List Operand} {R : Ending → aa9 → Prop} {c : Code}
theorem jD {G : Value → aa9 → Prop} (hf : P.funcs[f]? = some fn) (hb : fn.body = some c) (hn : (fn.name == "runtime.NumGoroutine") = false) (hx : oY L xs = some vs) (h : Calls P f vs.toArray w R) (hr : ∀ e w', R e w' → ∃ v, e = .returned v ∧ G v w') :
  Ef P L w (.call { callee := .value (.func f), args := xs.toArray, argTypes := ats }) ty G := pD hf hb hn hx h hr
theorem Qq (hf : P.funcs[f]? = some fn) (hb : fn.body = some c) (hn : (fn.name == "runtime.NumGoroutine") = false) (hx : oY L xs = some vs) (h : Calls P f vs.toArray w R) (hd : gV N dst = true)
  (hr : ∀ e w', R e w' → ∃ v, e = .returned v ∧ WL P ops Q rest N (bB dst v L) w') : WL P ops Q (⟨dst, .call { callee := .value (.func f), args := xs.toArray, argTypes := ats }, ty, pos, after, none⟩ :: rest) N L w :=
 af (pD (Φ := fun v w' => WL P ops Q rest N (bB dst v L) w') hf hb hn hx h hr) hd fun _ _ h => h
theorem eT (t : Tmp) (hj : (ops[j]?).bind (·.dst) = some t) (ht : look L t = some (.bool b)) (hf : P.funcs[f]? = some fn) (hb : fn.body = some c) (hn : (fn.name == "runtime.NumGoroutine") = false) (hx : oY L xs = some vs) (h : Calls P f vs.toArray w R) (hd : gV N dst = true)
  (hr : ∀ e w', R e w' → ∃ v, e = .returned v ∧ WL P ops Q rest N (bB dst v L) w') : WL P ops Q (⟨dst, .call { callee := .value (.func f), args := xs.toArray, argTypes := ats }, ty, pos, after, some (j, b)⟩ :: rest) N L w :=
 LJ t hj ht (pD (Φ := fun v w' => WL P ops Q rest N (bB dst v L) w') hf hb hn hx h hr) hd fun _ _ h => h
theorem jf (hi : ops[i]? = some ⟨dst, .call { callee := .value (.func f), args := xs.toArray, argTypes := ats }, ty, pos, after, none⟩) (hf : P.funcs[f]? = some fn) (hb : fn.body = some c) (hn : (fn.name == "runtime.NumGoroutine") = false) (hx : oY L xs = some vs) (h : Calls P f vs.toArray w R) (hd : gV N dst = true)
  (hr : ∀ e w', R e w' → ∃ v, e = .returned v ∧ (turns ops i = true ∨ Ext w w') ∧ WM P ops Q n (aa3.setIfInBounds i true) N (bB dst v L) w') : cu P ops Q n aa3 i N L w :=
 bE hi (pD (Φ := fun v w' => (turns ops i = true ∨ Ext w w') ∧ WM P ops Q n (aa3.setIfInBounds i true) N (bB dst v L) w') hf hb hn hx h hr) hd fun _ _ h => h
theorem gB (hi : ops[i]? = some ⟨dst, .call { callee := .value (.func f), args := xs.toArray, argTypes := ats }, ty, pos, after, some (j, b)⟩) (t : Tmp) (hj : (ops[j]?).bind (·.dst) = some t) (ht : look L t = some (.bool b)) (hf : P.funcs[f]? = some fn) (hb : fn.body = some c) (hn : (fn.name == "runtime.NumGoroutine") = false) (hx : oY L xs = some vs) (h : Calls P f vs.toArray w R) (hd : gV N dst = true)
  (hr : ∀ e w', R e w' → ∃ v, e = .returned v ∧ (turns ops i = true ∨ Ext w w') ∧ WM P ops Q n (aa3.setIfInBounds i true) N (bB dst v L) w') : cu P ops Q n aa3 i N L w :=
 Tp hi t hj ht (pD (Φ := fun v w' => (turns ops i = true ∨ Ext w w') ∧ WM P ops Q n (aa3.setIfInBounds i true) N (bB dst v L) w') hf hb hn hx h hr) hd fun _ _ h => h
end
theorem Ef.run {Φ : Value → aa9 → Prop} (h : ∀ ρ : Operand → Value, (∀ x u, ev L x = some u → ρ x = u) → ∃ v w', Φ v w' ∧ ∀ dst pos after guard, (execOp ρ ⟨dst, op, ty, pos, after, guard⟩).run P w = .ok (.value v) w') : Ef P L w op ty Φ := by intro a N ha dst pos after guard K Q hK;obtain ⟨v, w', hΦ, hr⟩ := h a.eval (fun _ _ hx => ha.ev hx);unfold Oper.wp;rw [hr];exact hK v w' hΦ
theorem Ef.RX {Φ : aa9 → Prop} (h : ∀ ρ : Operand → Value, (∀ x u, ev L x = some u → ρ x = u) → ∃ w', Φ w' ∧ ∀ dst pos after guard, (execOp ρ ⟨dst, op, ty, pos, after, guard⟩).run P w = .ok .skip w') : Ef P L w op ty fun v w' => v = undef ∧ Φ w' := by intro a N ha dst pos after guard K Q hK;obtain ⟨w', hΦ, hr⟩ := h a.eval (fun _ _ hx => ha.ev hx);unfold Oper.wp;rw [hr];exact hK _ w' ⟨rfl, hΦ⟩
/-! New blocks. -/
def KH (w : aa9) (t : TypeId) (cs : Array Value) (v : Value) (w' : aa9) : Prop := ∃ g, v = .pointer (cf g) ∧ aq w' g t cs ∧ w.heap.size ≤ g ∧ Ext w w'
theorem mw (hx : ev L x = some v) (hc : v.cells = cs) : Ef P L w (.box t x) ty (KH w t cs) := Ef.run fun ρ hρ =>
 ⟨_, w.alloc (.cells cs t), ⟨w.heap.size, rfl, aq.new w t cs, Nat.le_refl _, Ext.alloc w _⟩, fun _ _ _ _ => by subst hc; simp [execOp, hρ _ _ hx, Instr.box, newVar, newRow]⟩
theorem dG (hz : (P.info? t).map (fun i => i.zero.map (·.cells)) = some (some Z)) : Ef P L w (.alloc t) ty (KH w t Z) := Ef.run fun ρ hρ => by
  cases hi : P.info? t with
  | none => simp [hi] at hz
  | some i =>
    cases hzz : i.zero with
    | none => grind
    | some z =>
      simp only [hi, hzz, Option.map_some, Option.some.injEq] at hz
      subst hz
      exact ⟨_, w.alloc (.cells z.cells t), ⟨w.heap.size, rfl, aq.new w t _, Nat.le_refl _, Ext.alloc w _⟩, fun _ _ _ _ => by simp [execOp, Instr.alloc, zeroValue, typeInfo, hi, hzz, newVar, newRow]⟩
def Re (L : List (Nat × Value)) : Nat → List (Nat × Operand) → Option (List Value)
  | _, [] => some []
  | i, p :: ps => cond (Nat.beq p.1 i) (match ev L p.2, Re L (i + 1) ps with
    | some v, some vs => some (v :: vs)
    | _, _ => none) none
theorem ns (h : v.oneCell' = true) : v.cells = #[v] := by cases v <;> first | rfl | (simp [Value.oneCell'] at h)
theorem wH (ρ : Operand → Value) (hρ : ∀ x u, ev L x = some u → ρ x = u) : ∀ (ps : List (Nat × Operand)) (i : Nat) (vs pre post : List Value), Re L i ps = some vs → (∀ v ∈ vs, v.oneCell' = true) → pre.length = i → post.length = vs.length →
    Instr.fill (fun i => some (i * 1, 1)) (pre ++ post).toArray (ps.map fun p => (p.1, ρ p.2)) = some (pre ++ vs).toArray
  | [], i, vs, pre, post, h, _, _, hl => by simp only [Re, Option.some.injEq] at h;subst h;have : post = [] := List.eq_nil_of_length_eq_zero hl;subst this;rfl
  | p :: ps, i, vs, pre, post, h, h1, hp, hl => by
    unfold Re at h
    cases e : Nat.beq p.1 i with
    | false => simp [e] at h
    | true =>
      have hpi : p.1 = i := Nat.eq_of_beq_eq_true e
      simp only [e, cond_true] at h
      split at h
      · rename_i v us hv hus
        injection h with h
        subst h
        match post, hl with
        | q :: post, hl =>
          have hv1 := ns (h1 v (by simp))
          have ih := wH ρ hρ ps (i + 1) us (pre ++ [v]) post hus (fun u hu => h1 u (by simp [hu])) (by simp [hp]) (by simpa using hl)
          have hset : (pre ++ q :: post).toArray.setIfInBounds i v = (pre ++ [v] ++ post).toArray := by apply Array.ext';simp [← hp]
          rw [List.map_cons, hρ _ _ hv, hpi]
          unfold Instr.fill
          simp only [hv1, Nat.mul_one]
          rw [if_neg (by simp [← hp])]
          simp only [List.append_assoc, List.cons_append, List.nil_append] at hset ih ⊢
          have hfold : (#[v] : Array Value).zipIdx.foldl (fun cs (c, j) => cs.setIfInBounds (i + j) c) (pre ++ q :: post).toArray = (pre ++ v :: post).toArray := by simpa [Array.zipIdx] using hset
          rw [hfold]
          simpa using ih
      cases h
def Rm (w : aa9) (e : TypeId) (n : Nat) (vs : List Value) (v : Value) (w' : aa9) : Prop := ∃ g, v = .slice (cf g) n n ∧ aq w' g e vs.toArray ∧ w.heap.size ≤ g ∧ Ext w w'
theorem GL (hu : P.underlying t = some (.slice e)) (hi : (P.info? e).map (fun i => (i.zero, i.size)) = some (some z, 1)) (hz : z.cells.size = 1) (hp : Re L 0 ps.toList = some vs) (h1 : vs.all (·.oneCell') = true) (hn : vs.length = n) (hb' : Nat.ble n 100 = true)
    (ρ : Operand → Value) (hρ : ∀ x u, ev L x = some u → ρ x = u) (dst : Option Tmp) (pos : String) (after : Array Edge) (guard : Option (Nat × Bool)) :
    (execOp ρ ⟨dst, .buildSlice t n ps, ty, pos, after, guard⟩).run P w = .ok (.value (.slice (some ⟨w.heap.size, 0, none⟩) n n)) (w.alloc (.cells vs.toArray e)) := by
  have hb : n ≤ 16777216 := Nat.le_trans (Nat.le_of_ble_eq_true hb') Om;clear hb'
  cases hq : P.info? e with
  | none => simp [hq] at hi
  | some i =>
    simp only [hq, Option.map_some, Option.some.injEq, Prod.mk.injEq] at hi
    obtain ⟨z0, hz0⟩ : ∃ z0, z.cells[0]! = z0 := ⟨_, rfl⟩
    have hf := wH ρ hρ ps.toList 0 vs [] (List.replicate n z0) hp (by simpa using h1) rfl (by simp [hn])
    simp only [List.nil_append, Nat.mul_one, List.toArray_replicate] at hf
    subst hn
    by_cases h0 : vs.length = 0
    · have hr : ∀ Z : Array Value, (Array.range vs.length).map (fun k => Z[k % Z.size]!) = Array.replicate vs.length z0 := fun Z => by simp [h0, Array.range_zero']
      simp only [h0, Array.replicate_zero] at hf
      simp [execOp, Instr.buildSlice, run_underlying hu, sizeOf, typeInfo, hq, hi.2, h0, newRow, Array.range_zero', hf]
    have hr : (Array.range vs.length).map (fun k => z.cells[k % z.cells.size]!) = Array.replicate vs.length z0 := by grind
    have hb' : ¬ 16777216 < vs.length := Om
    simp [execOp, Instr.buildSlice, run_underlying hu, sizeOf, typeInfo, hq, hi.1, hi.2, h0, hb', zeroValue, newRow, hr, hf]
theorem aF (hu : P.underlying t = some (.slice e)) (hi : (P.info? e).map (fun i => (i.zero, i.size)) = some (some z, 1)) (hz : z.cells.size = 1) (hp : Re L 0 ps.toList = some vs) (h1 : vs.all (·.oneCell') = true) (hn : vs.length = n) (hb' : Nat.ble n 100 = true) :
  Ef P L w (.buildSlice t n ps) ty (Rm w e n vs) := Ef.run fun ρ hρ =>
 ⟨_, w.alloc (.cells vs.toArray e), ⟨w.heap.size, rfl, aq.new w e _, Nat.le_refl _, Ext.alloc w _⟩, GL hu hi hz hp h1 hn hb' ρ hρ⟩
theorem dC {a b : Int} {k : IntKind} {bytes : Nat} (hx : ev L x = some (.int k a)) (hy : ev L y = some (.int k' b)) (hu : P.underlying t = some (.slice e)) (hi : (P.info? e).map (fun i => (i.zero, i.size, i.bytes)) = some (some z, sz, bytes)) (hs : sz = 1) (hz : z.oneCell' = true)
    (ha : a = (n : Int)) (hb : b = (n : Int)) (hbytes : (bytes : Int) * n ≤ 281474976710656) (h63 : (n : Int) ≤ 9223372036854775807) : Ef P L w (.makeSlice t x y) ty (Rm w e n (List.replicate n z)) := Ef.run fun ρ hρ => by
  subst ha; subst hb; subst hs;refine ⟨_, w.alloc (.cells (List.replicate n z).toArray e), ⟨w.heap.size, rfl, aq.new w e _, Nat.le_refl _, Ext.alloc w _⟩, fun _ _ _ _ => ?_⟩
  cases hq : P.info? e with
  | none => simp [hq] at hi
  | some i =>
    simp only [hq, Option.map_some, Option.some.injEq, Prod.mk.injEq] at hi
    have hr := run_make (P := P) w t e i z hu hq hi.1 k k' n n Om Om (by grind) h63
    have hc : madeCells z.cells (n * 1) = (List.replicate n z).toArray := by apply Array.ext';have h1 := ns hz;unfold madeCells;rw [h1];simp [Nat.mod_one, List.map_const']
    simp only [Int.toNat_natCast, hi.2.1, hc] at hr
    simp [execOp, hρ _ _ hx, hρ _ _ hy, hr]
end
section
variable {xs : List Operand} {R : Ending → aa9 → Prop} {c : Code}
theorem aB (hf : P.funcs[f]? = some fn) (hx : oY L xs = some vs) (h : Calls P f vs.toArray w R) (hr : ∀ e w', R e w' → ∃ v, e = .returned v ∧ WL P ops Q rest N (bB dst v L) w')
 (hb : fn.body = some c := by exact rfl) (hn : (fn.name == "runtime.NumGoroutine") = false := by exact rfl) (hd : gV N dst = true := by exact rfl) : WL P ops Q (⟨dst, .call { callee := .value (.func f), args := xs.toArray, argTypes := ats }, ty, pos, after, none⟩ :: rest) N L w := Qq hf hb hn hx h hd hr
theorem bC (i : Nat) (hi : ops[i]? = some ⟨dst, .call { callee := .value (.func f), args := xs.toArray, argTypes := ats }, ty, pos, after, none⟩) (hf : P.funcs[f]? = some fn) (hx : oY L xs = some vs) (h : Calls P f vs.toArray w R)
 (hr : ∀ e w', R e w' → ∃ v, e = .returned v ∧ (turns ops i = true ∨ Ext w w') ∧ WM P ops Q n (aa3.setIfInBounds i true) N (bB dst v L) w')
 (ho : Region.ready .any ops aa3 = [i] := by kernel_rfl) (hb : fn.body = some c := by exact rfl) (hn : (fn.name == "runtime.NumGoroutine") = false := by exact rfl) (hd : gV N dst = true := by exact rfl) : WM P ops Q (n + 1) aa3 N L w := aR i ho (jf hi hf hb hn hx h hd hr)
end
theorem Lv {a b : Option Value} (h : a = b := by first | rfl | exact congrArg some (xm (Om))) : a = b := h
theorem Ls {p : Prop} (h : p := by repeat (first | exact trivial | refine ⟨by first | rfl | exact congrArg some (xm (by omega)), ?_⟩)) : p := h
section
open Go.RowKit
def mi (w : aa9) (g : Nat) (w' : aa9) : Prop := w.grownBy w' (some g)
section
theorem Ext.aw (h : Ext w0 w) (k : mi w g w') (hg : w0.heap.size ≤ g) : Ext w0 w' :=
 ⟨k.os.trans h.os, k.tape.trans h.tape, k.output.trans h.output, Nat.le_trans h.size k.size, fun i hi => (k.block i (Nat.lt_of_lt_of_le hi h.size) (by grind)).trans (h.block i hi)⟩
theorem _root_.Go.RowKit.Below.aw (h : Ext w0 w) (k : mi w g w') (hg : w0.heap.size ≤ g) : Ext w0 w' := Ext.aw h k hg
theorem aq.aw {b : Nat} (h : aq w b t cs) (k : mi w g w') (hne : b ≠ g) : aq w' b t cs := h.grown k (by grind)
theorem Bs.aw {xs : Lb} (h : Bs w A n xs) (k : mi w g w') (hne : ∀ b off, A = some ⟨b, off, none⟩ → b ≠ g) : Bs w' A n xs := h.grown k hne
theorem mi.JR (h : Ext w w') (g : Nat) : mi w g w' := rN h (Nat.le_refl _) _
theorem mi.tr (h : mi w g w') (k : mi w' g w'') : mi w g w'' :=
 ⟨k.os.trans h.os, k.tape.trans h.tape, k.output.trans h.output, Nat.le_trans h.size k.size, fun i hi hne => (k.block i (Nat.lt_of_lt_of_le hi h.size) hne).trans (h.block i hi hne)⟩
theorem yL (w : aa9) (g i : Nat) (v : Value) : mi w g (w.setCell ⟨g, i, none⟩ v) := vX (World.grownBy.refl w _) (.inl rfl) v
theorem oW (w : aa9) (g : Nat) (cs : Array Value) : mi w g (w.setRow g cs) :=
 ⟨rfl, rfl, rfl, by simp_all, fun i _ hne => setRow_other w g i cs (by grind)⟩
theorem Bs.wk {xs : Lb} (h : Bs w0 A n xs) (E : Ext w0 w) : Bs w A n xs := h.below E
theorem aq.get {b : Nat} (h : aq w b t cs) (hv : cs[i]? = some v) : w.cell? ⟨b, i, none⟩ = some v := by rw [h.cell]; exact hv
theorem Row.get (h : Row w base e A n c xs) (hi : i < n) : ∃ g v, A = some ⟨g, 0, none⟩ ∧ xs[i]? = some v ∧ w.cell? ⟨g, 0 + i, none⟩ = some v ∧ base ≤ g ∧ g < w.heap.size ∧ w.frozen? ⟨g, 0 + i, none⟩ = false := by
 have hl := h.len;obtain ⟨g, cap, hv, h1, h2⟩ := World.ownsRow.form h Om;injection hv with hv _ _
 subst hv;have hx : xs[i]? = some xs[i] := List.getElem?_eq_getElem Om;refine ⟨g, xs[i], rfl, hx, ?_, h1, h2, World.ownsRow.frozenAt h (0 + i)⟩;obtain ⟨b, off, hA, _, hc⟩ := (Row.at h).get (k := i) Om;injection hA with hA
 injection hA with hb ho _
 subst hb; subst ho;exact hc
theorem Row.lt (h : Row w base e (some ⟨g, off, none⟩) n c xs) : base ≤ g ∧ g < w.heap.size := World.ownsRow.lt h g rfl
theorem Row.aw (h : Row w base e A n c xs) (cg : mi w k w') (hne : ∀ b off, A = some ⟨b, off, none⟩ → b ≠ k) : Row w' base e A n c xs := by
 refine World.ownsRow.kept (row := some k) h cg ?_
 rcases h.2 with ⟨hv, _⟩ | ⟨g, cap, cur, hv, _⟩
 ·injection hv with hA _ _; subst hA; exact .inl rfl
 injection hv with hA _ _
 subst hA;exact .inr (by intro e; injection e with e; grind)
theorem Row.cap (h : Row w base e A n c xs) : n ≤ c := EL h
end
section
variable {x : Operand}
theorem DK (h1 : v.oneCell' = true) (hs : (P.info? t).map (·.size) = some 1) (hc : w.cell? ad = some old) (hf : w.frozen? ad = false) : (Instr.storeAt t (.pointer (some ad)) v).run P w = .ok () (w.setCell ad v) := by
 have h0 : ad.add 0 = ad := by simp [Addr.add]
 have hst := run_store P w ad v .plain h1;rw [hc] at hst;simp only [hf] at hst;simp [Instr.storeAt, Instr.sureAddr, storeVar, bz hs, ns h1, storeCells, h0, hst]
theorem vI (hx : ev L x = some (.pointer (some ad))) (hy : ev L y = some v) (h1 : v.oneCell' = true) (hs : (P.info? t).map (·.size) = some 1) (hc : w.cell? ad = some old) (hf : w.frozen? ad = false) :
  Ef P L w (.store t x y) ty fun u w' => u = undef ∧ w' = w.setCell ad v := Ef.RX fun ρ hρ => ⟨_, rfl, fun _ _ _ _ => by simp [execOp, hρ _ _ hx, hρ _ _ hy, DK h1 hs hc hf]⟩
theorem az (hx : ev L x = some (.pointer (some ⟨g, i, none⟩))) (hy : ev L y = some v) (h1 : v.oneCell' = true) (hs : (P.info? t).map (·.size) = some 1) (hg : aq w g e cs) (hi : i < cs.size) :
  Ef P L w (.store t x y) ty fun u w' => u = undef ∧ aq w' g e (cs.setIfInBounds i v) ∧ mi w g w' :=
 (vI hx hy h1 hs (hg.get (Array.getElem?_eq_getElem hi)) (hg.frozen i)).mono fun _ w' ⟨hu, hw⟩ => ⟨hu, by subst hw; exact hg.set i v, by subst hw; exact yL w g i v⟩
theorem kl (hx : ev L x = some (.pointer (some ⟨g, 0 + i, none⟩))) (hy : ev L y = some v) (h1 : v.oneCell' = true) (hs : (P.info? t).map (·.size) = some 1) (hg : Row w base e (cf g) n c xs) (hi : i < n) :
  Ef P L w (.store t x y) ty fun u w' => u = undef ∧ Row w' base e (cf g) n c (xs.set i v) ∧ mi w g w' := by
 obtain ⟨g', v', hA, _, hc, _, _, hf⟩ := hg.get hi;injection hA with hA
 injection hA with hA _ _
 subst hA;refine (vI hx hy h1 hs hc hf).mono fun _ w' ⟨hu, hw⟩ => ?_;subst hw;rw [Nat.zero_add];obtain ⟨r1, r2⟩ := World.ownsRow.stored hg i v;exact ⟨hu, r1, r2⟩
theorem ag {old : Array Value} (hx : ev L x = some (.pointer (cf g))) (hy : ev L y = some (.agg cells)) (hs : (P.info? t).map (·.size) = some cells.size) (hg : aq w g e old) (ho : old.size = cells.size) (h1 : cells.all (·.oneCell') = true) :
  Ef P L w (.store t x y) ty fun u w' => u = undef ∧ aq w' g e cells ∧ mi w g w' := by
 have hr := run_storeVar_row (P := P) w g e t old cells hg hs ho h1;exact (Ef.RX (Φ := fun w' => w' = w.setRow g cells) fun ρ hρ => ⟨_, rfl, fun _ _ _ _ => by simp [execOp, hρ _ _ hx, hρ _ _ hy, Instr.storeAt, Instr.sureAddr, hr]⟩).mono fun _ w' ⟨hu, hw⟩ => ⟨hu, by subst hw; exact hg.row _, by subst hw; exact oW w g cells⟩
theorem iy {dLen dCap m : Nat} {cs : List Value} (hx : ev L x = some (.slice (some ⟨g, o, none⟩) dLen dCap)) (hy : ev L y = some (.slice A m c)) (hu : P.underlying dT = some (.slice e)) (hs : (P.info? e).map (·.size) = some 1)
  (hg : aq w g tb cur) (hr : At w A cs) (hn : cs.length = Nat.min m dLen) (hfit : o + cs.length ≤ cur.size) (h1 : ∀ v ∈ cs, v.oneCell' = true) :
  Ef P L w (.call { callee := .builtin .copy, args := #[x, y], argTypes := #[dT, sT] }) ty fun u w' => u = .int .i64 (cs.length : Int) ∧ aq w' g tb (cur.toList.take o ++ cs ++ cur.toList.drop (o + cs.length)).toArray ∧ mi w g w' := by
 have aa8 := pI (P := P) w dT sT ty e g o dLen dCap A m c cur tb cs hu hs hg hr hn hfit h1;refine (Ef.run (Φ := fun u w' => u = .int .i64 (cs.length : Int) ∧ w' = w.setRow g (cur.toList.take o ++ cs ++ cur.toList.drop (o + cs.length)).toArray) fun ρ hρ => ⟨_, _, ⟨rfl, rfl⟩, fun _ _ _ _ => by simp [execOp, resolve, invoke, builtin, hρ _ _ hx, hρ _ _ hy, aa8]⟩).mono fun _ w' ⟨hu, hw⟩ => ⟨hu, by subst hw; exact hg.row _, by subst hw; exact oW w g _⟩
def XF (w : aa9) (base : Nat) (e : TypeId) (A : Oa) (n c : Nat) (xs : List Value) (v : Value) (w' : aa9) : Prop :=
 ∃ A' c', v = .slice A' n c' ∧ Row w' base e A' n c' xs ∧ Below base w w' ∧ w.grownBy w' (Value.slice A n c).ownBlock ∧ ((Value.slice A' n c').ownBlock = (Value.slice A n c).ownBlock ∨ (Value.slice A' n c').ownBlock = some w.heap.size)
theorem aT {m bytes : Nat} (hx : ev L x = some (.slice A n c)) (hy : ev L y = some (.slice B m c2)) (hE : Cf P t e bytes) (aa5 : Row w base e A n c xs) (hr : At w B ys) (hl : ys.length = m) (h1 : ∀ u ∈ ys, u.oneCell' = true)
  (hlen : (n + m) * bytes ≤ 140737488355328) (h63 : n + m ≤ 140737488355328) (aa6 : base ≤ w.heap.size) : Ef P L w (.call { callee := .builtin .append, args := #[x, y], argTypes := #[t, t] }) ty (XF w base e A (n + m) c (xs ++ ys)) := Ef.run fun ρ hρ => by
 obtain ⟨v', w', aa8, h2, h3, h4, h5⟩ := tN (P := P) (w0 := w) base t ty e bytes hE (.slice A n c) n xs aa5 B m c2 ys hl hr h1 hlen h63 (Below.refl _ _) aa6;obtain ⟨A', c', rfl⟩ := qp h2;refine ⟨_, w', ⟨A', c', rfl, h2, h3, ?_, ?_⟩, fun _ _ _ _ => by simp [execOp, resolve, invoke, builtin, hρ _ _ hx, hρ _ _ hy, aa8]⟩
 ·have : (Value.slice A n c).ownBlock = (Value.slice A (n + m) c).ownBlock := by cases A <;> rfl
  grind
 have : (Value.slice A n c).ownBlock = (Value.slice A (n + m) c).ownBlock := by cases A <;> rfl
 grind
end
theorem nE {xs : Lb} (B : aq w g t ([.slice A n c] : List Value).toArray) (h : Bs w A n xs) : sL w (cf g) 1 [xs] :=
 ⟨rfl, [.slice A n c], rfl, B.at 0 _ (fun j u hu => by grind), fun i hi => by
  grind⟩
theorem qj {xs xs' : Lb} (B : aq w g t ([.slice A n c, .slice A' n' c'] : List Value).toArray) (h : Bs w A n xs) (h' : Bs w A' n' xs') : sL w (cf g) 2 [xs, xs'] :=
 ⟨rfl, [.slice A n c, .slice A' n' c'], rfl, B.at 0 _ (fun j u hu => by grind), fun i hi => by
  grind⟩
theorem km {A2 : Oa} {n2 : Nat} {xs xs' xs2 : Lb} (B : aq w g t ([.slice A n c, .slice A' n' c', .slice A2 n2 c2] : List Value).toArray) (h : Bs w A n xs) (h' : Bs w A' n' xs') (h2 : Bs w A2 n2 xs2) : sL w (cf g) 3 [xs, xs', xs2] :=
 ⟨rfl, [.slice A n c, .slice A' n' c', .slice A2 n2 c2], rfl, B.at 0 _ (fun j u hu => by grind), fun i hi => by
  grind⟩
theorem aX {xs : Lb} (h : aq w g t (dc xs)) (hn : xs.length = n) : Bs w (cf g) n xs :=
 ⟨hn, h.at 0 _ (fun j u hu => by rw [Nat.zero_add]; simpa [dc] using hu)⟩
theorem Bs.nil (w : aa9) (A : Oa) : Bs w A 0 [] := ⟨rfl, .inl rfl⟩
theorem aq.congr (h : aq w g t cs) (e : cs = cs') : aq w g t cs' := e ▸ h
section
variable {x : Operand}
theorem iA {m bytes : Nat} (hx : ev L x = some (.slice A 0 c)) (hy : ev L y = some (.slice B m c2)) (hE : Cf P t e bytes) (aa5 : Row w base e A 0 c []) (hr : At w B ys) (hl : ys.length = m) (h1 : ∀ u ∈ ys, u.oneCell' = true)
  (hlen : m * bytes ≤ 140737488355328) (h63 : m ≤ 140737488355328) (aa6 : base ≤ w.heap.size) : Ef P L w (.call { callee := .builtin .append, args := #[x, y], argTypes := #[t, t] }) ty (XF w base e A m c ys) := by
 have h := aT (P := P) (ty := ty) hx hy hE aa5 hr hl h1 (by grind) Om aa6;grind
theorem Ez (hu : P.underlying t = some (.slice e)) (hi : (P.info? e).map (fun i => (i.zero, i.size)) = some (some z, 1)) (hz : z.cells.size = 1) (hp : Re L 0 ps.toList = some vs) (h1 : vs.all (·.oneCell') = true) (hn : vs.length = n) (hb' : Nat.ble n 100 = true) :
  Ef P L w (.buildSlice t n ps) ty fun v w' => v = .slice (some ⟨w.heap.size, 0, none⟩) n n ∧ w' = w.alloc (.cells vs.toArray e) := Ef.run fun ρ hρ => ⟨_, _, ⟨rfl, rfl⟩, GL hu hi hz hp h1 hn hb' ρ hρ⟩
theorem EY (hx : ev L x = some (.slice (some ⟨w.heap.size, 0, none⟩) n c)) (hu : P.underlying t = some (.slice e)) (he : P.underlying e = some (.int .u8)) :
  Ef P L (w.alloc (.cells C e)) (.convert t t x) ty fun v w' => v = .slice (some ⟨w.heap.size, 0, none⟩) n c ∧ w' = w.alloc (.cells C e (C.size, C.size + 1)) := Ef.run fun ρ hρ =>
 ⟨_, _, ⟨rfl, rfl⟩, fun _ _ _ _ => by simp [execOp, hρ _ _ hx, Lib.run_convert_bytes_const (P := P) w t e C n c hu he]⟩
end
theorem vq {fr : Nat × Nat} {cs : List Value} {xs : Lb} (h : cs = xs.map bv) : Bs (w.alloc (.cells cs.toArray t fr)) (some ⟨w.heap.size, 0, none⟩) xs.length xs :=
 ⟨rfl, .inr ⟨w.heap.size, 0, rfl, fun j u hu => by
  rw [Nat.zero_add, cell_of_row _ _ _ cs.toArray t fr (heap_alloc_new w _), List.getElem?_toArray, h]; exact hu⟩⟩
def Dj (A B : Oa) : Prop := ∀ b o b' o', A = some ⟨b, o, none⟩ → B = some ⟨b', o', none⟩ → b ≠ b'
theorem Dj.NI (B : Oa) : Dj none B := fun _ _ _ _ h => by cases h
theorem Dj.symm (h : Dj A B) : Dj B A := fun b o b' o' h1 h2 e => h b' o' b o h2 h1 e.symm
theorem Row.app {m d : Nat} (h : Row w base2 e2 B m d ys) (hd : Dj A B) (hg : w.grownBy w' (Value.slice A n c).ownBlock)
    (hl : (Value.slice A' n' c').ownBlock = (Value.slice A n c).ownBlock ∨ (Value.slice A' n' c').ownBlock = some w.heap.size) (hA : ∀ b o s, A = some ⟨b, o, s⟩ → s = none) : Row w' base2 e2 B m d ys ∧ Dj A' B := by
  constructor
  · refine World.ownsRow.kept (row := (Value.slice A n c).ownBlock) h hg ?_
    rcases h.2 with ⟨hv, _⟩ | ⟨g, cap, cur, hv, _⟩
    · injection hv with hB _ _; subst hB; exact .inl rfl
    injection hv with hB _ _
    subst hB
    cases A with
    | none => exact .inr (by simp [Value.ownBlock])
    | some a =>
      obtain ⟨b, o, s⟩ := a
      have := hA b o s rfl
      subst this
      exact .inr (by simp only [Value.ownBlock]; intro e; injection e with e; exact hd b o g 0 rfl rfl e.symm)
  intro b o b' o' h1 h2 hbb;subst h1; subst h2; subst hbb;have hlt : b < w.heap.size := (Row.lt h).2;rcases hl with hl | hl
  · cases A with
    | none => simp [Value.ownBlock] at hl
    | some a =>
      obtain ⟨b2, o2, s⟩ := a
      have := hA b2 o2 s rfl
      subst this
      simp only [Value.ownBlock, Option.some.injEq] at hl
      exact hd b2 o2 b o' rfl rfl hl.symm
  simp only [Value.ownBlock, Option.some.injEq] at hl;omega
theorem Row.gQ (h : Row w base e A n c xs) (b o : Nat) (s) (hA : A = some ⟨b, o, s⟩) : s = none := by
 rcases h.2 with ⟨hv, _⟩ | ⟨g, cap, cur, hv, _⟩
 ·grind
 grind
theorem Row.bs {xs : Lb} (h : Row w base e A n c (xs.map bv)) : Bs w A n xs := ⟨by have := h.len; grind, Row.at h⟩
theorem Row.nw (h : Row w base e A n c xs) : Nw base w A := fun b o e => by
 subst e;refine ⟨(Row.lt h).1, ?_⟩
 rcases h.2 with ⟨hv, _⟩ | ⟨g, cap, cur, hv, _, hb, _⟩
 ·cases hv
 grind
theorem Nw.of (B : aq w g t cs) (h : base ≤ g) : Nw base w (cf g) := fun b o e => by
 injection e with e
 injection e with e1 _ _
 subst e1;exact ⟨h, _, _, B⟩
theorem Row.bn {xs : Lb} (h : Row w base e A n c (xs.map bv)) : Bn base w A n xs := ⟨Row.bs h, Row.nw h⟩
theorem Bs.U1 {xs : Lb} (h : Bs w (some ⟨g, o, none⟩) n xs) (hn : 0 < n) : g < w.heap.size := by obtain ⟨b', o', e', hb', _⟩ := h.get hn;grind
theorem Row.cat {xs ys : Lb} (h : Row w base e A n c (xs.map bv ++ ys.map bv)) : Row w base e A n c ((xs ++ ys).map bv) := by grind
theorem At.fA (B : aq w g t vs.toArray) : At w (cf g) vs := B.at 0 _ (fun j u hu => by grind)
theorem Row.congr (h : Row w base e A n c xs) (hn : n = n') (hx : xs = ys) : Row w base e A n' c ys := by grind
theorem Row.byte {xs : Lb} (h : Row w base e A n c (xs.map bv)) (hi : i < n) : ∃ g, A = some ⟨g, 0, none⟩ ∧ w.cell? ⟨g, 0 + i, none⟩ = some (.int .u8 ((xs.getD i 0).toNat : Int)) ∧ base ≤ g ∧ g < w.heap.size := by
 obtain ⟨g, v, hA, hx, hc, h1, h2, _⟩ := h.get hi;refine ⟨g, hA, ?_, h1, h2⟩;have hl : i < xs.length := by have := h.len; simp at this; omega
 rw [hc, ← hx];simp [hl, bv]
theorem dZ {p : Prop} [Decidable p] [Decidable q] (h : p ↔ q) : Ending.returned (.bool (decide p)) = .returned (.bool (decide q)) := by rw [decide_eq_decide.2 h]
theorem r8 [Decidable q] (h : b = true ↔ q) : Ending.returned (.bool b) = .returned (.bool (decide q)) := by grind
section
theorem gj {c rest : Code} (l : Nat) (J : Nat → List (Nat × Value) → aa9 → Prop) (hf : findLabel c l = some (Code.skip.seq rest))
    (pass : ∀ (G : Act → aa9 → Prop) (n : Nat) (L : List (Nat × Value)) (w : aa9), J n L w → (∀ {L1 : List (Nat × Value)} {w' : aa9} (n' : Nat) (L' : List (Nat × Value)), J n' L' w' → n' < n → mC L1 L' → WK G N L1 w') → WC P (Exit.jump l G Q) rest N L w)
    (first : ∀ (G : Act → aa9 → Prop), (∀ {L1 : List (Nat × Value)} {w' : aa9} (n' : Nat) (L' : List (Nat × Value)), J n' L' w' → mC L1 L' → WC P (Exit.jump l G Q) rest N L1 w') → WC P (Exit.jump l G Q) c N L w) :
    WC P Q (.scope c) N L w := by
  intro a ha;refine wp_scope_jumps l (fun a w => ∃ n L, Fr N L a ∧ J n L w) (fun a w => leastOf fun n => ∃ L, Fr N L a ∧ J n L w) hf ?_ ?_
  · exact first _ (fun n' L' hJ hin a' ha' => pass (fun a' w' => ∃ n1 L1, Fr N L1 a' ∧ J n1 L1 w') n' L' _ hJ (fun n1 L1 hJ1 _ hin1 a1 ha1 => ⟨n1, L1, ha1.sub hin1, hJ1⟩) a' (ha'.sub hin)) a ha
  rintro a w ⟨n0, L0, h0⟩;obtain ⟨⟨L, ha, hJ⟩, hmin⟩ := leastOf_spec (p := fun n => ∃ L, Fr N L a ∧ J n L w) ⟨n0, L0, h0⟩;refine wp_seq (wp_skip ?_);refine wp_mono (pass (fun a' w' => ∃ n', n' < leastOf (fun n => ∃ L, Fr N L a ∧ J n L w) ∧ ∃ L', Fr N L' a' ∧ J n' L' w') _ L w hJ (fun n' L' hJ' hn hin a' ha' => ⟨n', hn, L', ha'.sub hin, hJ'⟩) a ha) ?_;intro e a' w' hq
  cases e with
  | goto l' =>
    obtain ⟨e1, n', hlt, L', ha', hJ'⟩ := hq
    have hs := leastOf_spec (p := fun n => ∃ L, Fr N L a' ∧ J n L w') ⟨n', L', ha', hJ'⟩
    exact ⟨e1, ⟨n', L', ha', hJ'⟩, Nat.lt_of_le_of_lt (hs.2 n' ⟨L', ha', hJ'⟩) hlt⟩
  | normal => exact hq
  | exit id => exact hq
  | ret => exact hq
  | panic ch => exact hq
  | outgrown => exact hq
end
section
variable {x : Operand}
theorem tp {u : ByteArray} (hx : ev L x = some (.string s)) (hy : ev L y = some (.string u)) (hl : ((s.size : Int) + u.size ≤ 9223372036854775807)) : Y P L w (.binOp .add t x y t') ty (.string (s ++ u)) := fun ρ hρ w' _ _ _ _ _ => by simp [execOp, hρ _ _ hx, hρ _ _ hy, eqGuard, binOp, Op.stringOp, hl]
theorem oJ (hx : ev L x = some (.string s)) (hs : P.underlying t = some d) (hu : P.underlying t' = some (.slice e)) (he : P.underlying e = some (.int .u8)) :
  Ef P L w (.convert t t' x) ty fun v w' => ∃ g c, v = .slice (cf g) s.size c ∧ Bs w' (cf g) s.size s.data.toList ∧ w.heap.size ≤ g ∧ Ext w w' := Ef.run fun ρ hρ => by
 refine ⟨_, Lib.bytesWorld w e s, ⟨w.heap.size, grownCap w s.size 0 e, rfl, ⟨rfl, .inr ⟨w.heap.size, 0, rfl, fun j u hu' => ?_⟩⟩, Nat.le_refl _, ?_⟩, fun _ _ _ _ => by simp [execOp, hρ _ _ hx, Lib.run_convert_string_bytes (P := P) w t t' e s hs hu he]⟩
 ·rw [List.getElem?_map] at hu'
  have hj : j < s.size := by
   rcases Nat.lt_or_ge j s.size with h | h
   ·exact h
   simp_all
  rw [Nat.zero_add, Lib.bytesWorld_cell w e s j hj, ← hu'];have hj' : j < s.data.toList.length := by simpa using hj
  rw [List.getElem?_eq_getElem hj', List.getD_eq_getElem?_getD, List.getElem?_eq_getElem hj'];rfl
 exact ⟨rfl, rfl, rfl, by rw [Lib.bytesWorld_size]; omega, fun k hk => Lib.bytesWorld_at_old w e s k hk⟩
end
theorem Bs.app {m : Nat} {ys : Lb} (h : Bs w B m ys) (hd : Dj A B) (hg : w.grownBy w' (Value.slice A n c).ownBlock) (hA : ∀ b o s, A = some ⟨b, o, s⟩ → s = none) : Bs w' B m ys := by
  cases A with
  | none =>
    refine ⟨h.1, ?_⟩
    rcases h.2 with h0 | ⟨b, off, hB, hc⟩
    · exact .inl h0
    exact .inr ⟨b, off, hB, fun j u hu => by
      have h1 := hc j u hu;rw [World.cell?_of_block (w := w) (hg.block b (dR h1) (by simp [Value.ownBlock]))]
      exact h1⟩
  | some a =>
    obtain ⟨b, o, s⟩ := a
    have := hA b o s rfl
    subst this
    exact h.grown hg (fun b' off hB e => hd b o b' off rfl hB e.symm)
end
namespace Sha
def cP (x n : Nat) : Nat := x / 2 ^ n + x % 2 ^ n * 2 ^ (32 - n)
def s0 (x : Nat) : Nat := (cP x 7 ^^^ cP x 18) ^^^ (x / 8)
def s1 (x : Nat) : Nat := (cP x 17 ^^^ cP x 19) ^^^ (x / 1024)
def S0 (x : Nat) : Nat := (cP x 2 ^^^ cP x 13) ^^^ cP x 22
def S1 (x : Nat) : Nat := (cP x 6 ^^^ cP x 11) ^^^ cP x 25
def ch (e f g : Nat) : Nat := (e &&& f) ^^^ ((4294967295 - e) &&& g)
def yu (a b c : Nat) : Nat := ((a &&& b) ^^^ (a &&& c)) ^^^ (b &&& c)
def LN (l : List UInt8) (t : Nat) : Nat := (l.getD (4 * t) 0).toNat * 16777216 + (l.getD (4 * t + 1) 0).toNat * 65536 + (l.getD (4 * t + 2) 0).toNat * 256 + (l.getD (4 * t + 3) 0).toNat
def gT (l : List UInt8) : Nat → List Nat
 | 0 => []
 | k + 1 => gT l k ++ [LN l k]
def gE (p : List Nat) (k : Nat) : Nat := (s1 (p.getD (k + 14) 0) + p.getD (k + 9) 0 + s0 (p.getD (k + 1) 0) + p.getD k 0) % 4294967296
def ext (m : List Nat) : Nat → List Nat
 | 0 => m
 | k + 1 => ext m k ++ [gE (ext m k) k]
def words (l : List UInt8) : List Nat := ext (gT l 16) 48
structure S8 where
 (a b c d e f g h : Nat)
def S8.list (s : S8) : List Nat := [s.a, s.b, s.c, s.d, s.e, s.f, s.g, s.h]
def S8.ok (s : S8) : Prop := s.a < 4294967296 ∧ s.b < 4294967296 ∧ s.c < 4294967296 ∧ s.d < 4294967296 ∧ s.e < 4294967296 ∧ s.f < 4294967296 ∧ s.g < 4294967296 ∧ s.h < 4294967296
def K : List Nat := [
 0x428a2f98, 0x71374491, 0xb5c0fbcf, 0xe9b5dba5, 0x3956c25b, 0x59f111f1, 0x923f82a4, 0xab1c5ed5,
 0xd807aa98, 0x12835b01, 0x243185be, 0x550c7dc3, 0x72be5d74, 0x80deb1fe, 0x9bdc06a7, 0xc19bf174,
 0xe49b69c1, 0xefbe4786, 0x0fc19dc6, 0x240ca1cc, 0x2de92c6f, 0x4a7484aa, 0x5cb0a9dc, 0x76f988da,
 0x983e5152, 0xa831c66d, 0xb00327c8, 0xbf597fc7, 0xc6e00bf3, 0xd5a79147, 0x06ca6351, 0x14292967,
 0x27b70a85, 0x2e1b2138, 0x4d2c6dfc, 0x53380d13, 0x650a7354, 0x766a0abb, 0x81c2c92e, 0x92722c85,
 0xa2bfe8a1, 0xa81a664b, 0xc24b8b70, 0xc76c51a3, 0xd192e819, 0xd6990624, 0xf40e3585, 0x106aa070,
 0x19a4c116, 0x1e376c08, 0x2748774c, 0x34b0bcb5, 0x391c0cb3, 0x4ed8aa4a, 0x5b9cca4f, 0x682e6ff3,
 0x748f82ee, 0x78a5636f, 0x84c87814, 0x8cc70208, 0x90befffa, 0xa4506ceb, 0xbef9a3f7, 0xc67178f2]
def H0 : List Nat := [0x6a09e667, 0xbb67ae85, 0x3c6ef372, 0xa54ff53a, 0x510e527f, 0x9b05688c, 0x1f83d9ab, 0x5be0cd19]
def IV : S8 := ⟨0x6a09e667, 0xbb67ae85, 0x3c6ef372, 0xa54ff53a, 0x510e527f, 0x9b05688c, 0x1f83d9ab, 0x5be0cd19⟩
def T1 (s : S8) (k w : Nat) : Nat := s.h + S1 s.e + ch s.e s.f s.g + k + w
def T2 (s : S8) : Nat := S0 s.a + yu s.a s.b s.c
def sH (s : S8) (k w : Nat) : S8 :=
 ⟨(T1 s k w + T2 s) % 4294967296, s.a, s.b, s.c, (s.d + T1 s k w) % 4294967296, s.e, s.f, s.g⟩
def rounds (w : List Nat) (s : S8) : Nat → S8
 | 0 => s
 | t + 1 => sH (rounds w s t) (K.getD t 0) (w.getD t 0)
def S8.add (s x : S8) : S8 := ⟨(s.a + x.a) % 4294967296, (s.b + x.b) % 4294967296, (s.c + x.c) % 4294967296, (s.d + x.d) % 4294967296,
 (s.e + x.e) % 4294967296, (s.f + x.f) % 4294967296, (s.g + x.g) % 4294967296, (s.h + x.h) % 4294967296⟩
def step (s : S8) (b : List UInt8) : S8 := s.add (rounds (words b) s 64)
def lM (n : Nat) : List UInt8 := [UInt8.ofNat (n / 72057594037927936), UInt8.ofNat (n / 281474976710656), UInt8.ofNat (n / 1099511627776), UInt8.ofNat (n / 4294967296),
 UInt8.ofNat (n / 16777216), UInt8.ofNat (n / 65536), UInt8.ofNat (n / 256), UInt8.ofNat n]
def cv (n : Nat) : Nat := (119 - n % 64) % 64
def pad (n : Nat) : List UInt8 := 128 :: (List.replicate (cv n) 0 ++ lM (n * 8))
def blocks (s : S8) (l : List UInt8) : Nat → S8
 | 0 => s
 | k + 1 => step (blocks s l k) ((l.drop (64 * k)).take 64)
def uV (x : Nat) : List UInt8 := [UInt8.ofNat (x / 16777216), UInt8.ofNat (x / 65536), UInt8.ofNat (x / 256), UInt8.ofNat x]
def S8.bytes (s : S8) : List UInt8 := s.list.flatMap uV
def sum (b : List UInt8) : List UInt8 := (blocks IV (b ++ pad b.length) ((b ++ pad b.length).length / 64)).bytes
theorem ba (hx : x < 4294967296) (hn : n ≤ 32) : cP x n < 4294967296 := by
 unfold cP
 have h1 : x / 2 ^ n < 2 ^ (32 - n) := by rw [Nat.div_lt_iff_lt_mul (Nat.two_pow_pos n), ← Nat.pow_add, Nat.sub_add_cancel hn]; exact hx
 have h2 : x % 2 ^ n < 2 ^ n := Nat.mod_lt _ (Nat.two_pow_pos n)
 have h3 : x % 2 ^ n * 2 ^ (32 - n) + 2 ^ (32 - n) ≤ 4294967296 := by have : (x % 2 ^ n + 1) * 2 ^ (32 - n) ≤ 2 ^ n * 2 ^ (32 - n) := Nat.mul_le_mul_right _ h2;rw [← Nat.pow_add, Nat.add_sub_cancel' hn, Nat.add_mul] at this;omega
 omega
theorem iV {y : Nat} (hx : x < 4294967296) (hy : y < 4294967296) : x ^^^ y < 4294967296 := Nat.xor_lt_two_pow (n := 32) hx hy
theorem fz {y : Nat} (hx : x < 4294967296) : x &&& y < 4294967296 := Nat.lt_of_le_of_lt Nat.and_le_left hx
theorem VB (hx : x < 4294967296) : S0 x < 4294967296 := iV (iV (ba hx (Om)) (ba hx (Om))) (ba hx (Om))
theorem Vs (hx : x < 4294967296) : S1 x < 4294967296 := iV (iV (ba hx (Om)) (ba hx (Om))) (ba hx (Om))
theorem Va {e f : Nat} (he : e < 4294967296) : ch e f g < 4294967296 := iV (fz he) (fz (Om))
theorem TT {a b : Nat} (ha : a < 4294967296) (hb : b < 4294967296) : yu a b c < 4294967296 := iV (iV (fz ha) (fz ha)) (fz hb)
theorem ye (hx : x < 4294967296) (hn : n ≤ 32) : (x * 2 ^ (32 - n) % 4294967296) ||| (x / 2 ^ n) = cP x n := by
 have hp : (4294967296 : Nat) = 2 ^ n * 2 ^ (32 - n) := by rw [← Nat.pow_add, Nat.add_sub_cancel' hn]
 have h1 : x * 2 ^ (32 - n) % 4294967296 = x % 2 ^ n * 2 ^ (32 - n) := by rw [hp, Nat.mul_mod_mul_right]
 have h2 : x / 2 ^ n < 2 ^ (32 - n) := by rw [Nat.div_lt_iff_lt_mul (Nat.two_pow_pos n), ← Nat.pow_add, Nat.sub_add_cancel hn]; exact hx
 rw [h1, nat_join (32 - n) _ _ (by simp) h2];unfold cP;omega
theorem Us (l : List UInt8) (t : Nat) : LN l t < 4294967296 := by unfold LN;have h : ∀ x : UInt8, x.toNat < 256 := fun x => x.toNat_lt;grind
theorem dt (l : List UInt8) (k : Nat) : (gT l k).length = k := by induction k with
 | zero => rfl
 | succ k ih => simp [gT, ih]
theorem fV (m : List Nat) (k : Nat) : (ext m k).length = m.length + k := by induction k with
 | zero => rfl
 | succ k ih => simp [ext, ih]; omega
theorem cH (l : List UInt8) : (words l).length = 64 := by simp [words, fV, dt]
theorem oX (l : List UInt8) (k : Nat) : ∀ x ∈ gT l k, x < 4294967296 := by induction k with
  | zero => simp [gT]
  | succ k ih =>
    intro x hx
    simp only [gT, List.mem_append, List.mem_singleton] at hx
    rcases hx with hx | rfl
    · exact ih x hx
    exact Us l k
theorem oC (m : List Nat) (hm : ∀ x ∈ m, x < 4294967296) (k : Nat) : ∀ x ∈ ext m k, x < 4294967296 := by induction k with
  | zero => exact hm
  | succ k ih =>
    intro x hx
    simp only [ext, List.mem_append, List.mem_singleton] at hx
    rcases hx with hx | rfl
    · exact ih x hx
    unfold gE; omega
theorem La (l : List UInt8) : ∀ x ∈ words l, x < 4294967296 := oC _ (oX l 16) 48
theorem fJ (hm : ∀ x ∈ m, x < 4294967296) (k : Nat) : m.getD k 0 < 4294967296 := by
 rw [List.getD_eq_getElem?_getD];rcases h : m[k]? with _ | x
 ·simp
 simpa [h] using hm x (List.mem_of_getElem? h)
theorem Wi : ∀ x ∈ K, x < 4294967296 := by decide +kernel
theorem CN {s : S8} (h : s.ok) (k w : Nat) : (sH s k w).ok := by obtain ⟨h1, h2, h3, h4, h5, h6, h7, h8⟩ := h;exact ⟨Nat.mod_lt _ (Om), h1, h2, h3, Nat.mod_lt _ (Om), h5, h6, h7⟩
theorem gk (w : List Nat) {s : S8} (h : s.ok) (t : Nat) : (rounds w s t).ok := by induction t with
 | zero => exact h
 | succ t ih => exact CN ih _ _
theorem DP (s x : S8) : (s.add x).ok := ⟨Nat.mod_lt _ (Om), Nat.mod_lt _ (Om), Nat.mod_lt _ (Om), Nat.mod_lt _ (Om), Nat.mod_lt _ (Om), Nat.mod_lt _ (Om), Nat.mod_lt _ (Om), Nat.mod_lt _ (Om)⟩
theorem sK (s : S8) (b : List UInt8) : (step s b).ok := DP _ _
theorem rD : IV.ok := by unfold S8.ok IV; decide
theorem gW {s : S8} (h : s.ok) (l : List UInt8) (k : Nat) : (blocks s l k).ok := by cases k with
 | zero => exact h
 | succ k => exact sK _ _
theorem cJ (n : Nat) : (pad n).length = 9 + cv n := by simp [pad, lM]; omega
theorem kU (n : Nat) : (n + (pad n).length) % 64 = 0 := by rw [cJ]; unfold cv; omega
theorem lN (s : S8) : s.bytes.length = 32 := rfl
theorem bT (b : List UInt8) : (sum b).length = 32 := rfl
def fP (l m : List Nat) (k : Nat) : List Nat := (List.zipWith (fun x y => (x + y) % 4294967296) l m).take k ++ l.drop k
theorem nB (l m : List Nat) : fP l m 0 = l := by simp [fP]
theorem mI (h : l.length = m.length) (hk : k ≤ l.length) : (fP l m k).length = l.length := by simp [fP, ← h]; omega
theorem po (h : l.length = m.length) (hk : k < l.length) : (fP l m k).getD k 0 = l.getD k 0 := by
 have e : ((List.zipWith (fun x y => (x + y) % 4294967296) l m).take k).length = k := by grind
 simp only [fP, List.getD_eq_getElem?_getD];rw [List.getElem?_append_right (Om), e, Nat.sub_self, List.getElem?_drop, Nat.add_zero]
theorem qn (h : l.length = m.length) (hk : k < l.length) : (fP l m k).set k ((l.getD k 0 + m.getD k 0) % 4294967296) = fP l m (k + 1) := by
 have e : ((List.zipWith (fun x y => (x + y) % 4294967296) l m).take k).length = k := by grind
 have hz : k < (List.zipWith (fun x y => (x + y) % 4294967296) l m).length := by grind
 simp only [fP];rw [List.set_append_right _ _ (Om), e, Nat.sub_self, List.take_succ_eq_append_getElem hz, List.drop_eq_getElem_cons hk];grind
theorem sW (s x : S8) : (s.add x).list = fP s.list x.list 8 := rfl
end Sha
namespace Mac
def Ec (key : Lb) : List UInt8 := let k := if 64 < key.length then Sha.sum key else key; k ++ iX (64 - k.length)
def held (key : Lb) (c : UInt8) : List UInt8 := (Ec key).map (· ^^^ c)
def tag (key text : Lb) : List UInt8 := Sha.sum (held key 92 ++ Sha.sum (held key 54 ++ text))
theorem oT (key : Lb) : (Ec key).length = 64 := by
 unfold Ec;by_cases h : 64 < key.length
 ·simp [h, iX, Sha.bT]
 simp [h, iX]; omega
theorem iD (key : Lb) (c : UInt8) : (held key c).length = 64 := by simp [held, oT]
theorem du (key text : Lb) : (tag key text).length = 32 := Sha.bT _
end Mac
namespace Wire
def be : Nat → Nat → List UInt8
 | 0, _ => []
 | k + 1, n => be k (n / 256) ++ [UInt8.ofNat n]
theorem ji : ∀ (k n : Nat), (be k n).length = k
 | 0, _ => rfl
 | k + 1, n => by simp [be, ji k]
theorem zc : ∀ (k n : Nat), be (k + 1) n = [UInt8.ofNat (n / 256 ^ k)] ++ be k n
  | 0, n => by simp [be]
  | k + 1, n => by rw [be, zc k (n / 256)];rw [be];simp [Nat.div_div_eq_div_mul, Nat.pow_succ, Nat.mul_comm]
def len (n : Nat) : List UInt8 :=
 if n < 64 then [UInt8.ofNat n]
 else if n < 16384 then [UInt8.ofNat (64 + n / 256), UInt8.ofNat (n % 256)]
 else [UInt8.ofNat (128 + n / 16777216), UInt8.ofNat (n / 65536 % 256), UInt8.ofNat (n / 256 % 256), UInt8.ofNat (n % 256)]
def jL (n : Nat) : Nat := if n < 64 then 1 else if n < 16384 then 2 else 4
theorem Cx (n : Nat) : (len n).length = jL n := by unfold len jL; grind
theorem bH (n : Nat) : 1 ≤ jL n ∧ jL n ≤ 4 := by unfold jL; grind
theorem ofNat_eq {a b : Nat} (h : a % 256 = b % 256) : UInt8.ofNat a = UInt8.ofNat b := UInt8.toNat_inj.1 (by simp_all)
theorem T4 (n : Nat) (h : n < 1073741824) : be (jL n) (jL n / 2 * 2 ^ (8 * jL n - 2) + n) = len n := by
 unfold len jL;by_cases h1 : n < 64
 ·simp [h1, be]
 by_cases h2 : n < 16384
 ·simp only [h1, h2, if_true, if_false, be, List.nil_append, List.cons_append];congr 1
  ·grind
  congr 1;exact ofNat_eq Om
 simp only [h1, h2, if_false, be, List.nil_append, List.cons_append];congr 1
 ·grind
 congr 1
 ·exact ofNat_eq Om
 congr 1
 ·exact ofNat_eq Om
 congr 1;exact ofNat_eq Om
def vec (v : Lb) : List UInt8 := len v.length ++ v
theorem jr (v : Lb) : (vec v).length = jL v.length + v.length := by simp [vec, Cx]
end Wire
namespace Kdf
def T (secret info : Lb) : Nat → List UInt8
 | 0 => []
 | k + 1 => Mac.tag secret (T secret info k ++ info ++ [UInt8.ofNat (k + 1)])
def BA (secret info : Lb) : Nat → List UInt8
 | 0 => []
 | k + 1 => BA secret info k ++ T secret info (k + 1)
theorem Bv (s i : Lb) (k : Nat) : (T s i (k + 1)).length = 32 := Mac.du _ _
theorem UU (s i : Lb) (k : Nat) : (T s i k).length ≤ 32 := by cases k <;> simp [T, Mac.du]
theorem ou (s i : Lb) : ∀ k, (BA s i k).length = 32 * k
 | 0 => rfl
 | k + 1 => by rw [BA, List.length_append, ou s i k, Bv]; omega
theorem Ma (s i : Lb) (n : Nat) : ∀ k j, n ≤ 32 * k → k ≤ j → (BA s i j).take n = (BA s i k).take n := by
  intro k j _ _
  induction j with
  | zero => grind
  | succ j ih =>
    by_cases h : k = j + 1
    · rw [h]
    rw [BA, List.take_append_of_le_length (by rw [ou]; omega), ih Om]
def expand (s i : Lb) (n : Nat) : List UInt8 := (BA s i ((n + 31) / 32)).take n
theorem og (s i : Lb) (n : Nat) : (expand s i n).length = n := by rw [expand, List.length_take, ou]; omega
theorem vi (s i : Lb) (n k : Nat) (h : n ≤ 32 * k) : (BA s i k).take n = expand s i n := Ma s i n _ k Om Om
def N1 : List UInt8 := [77, 76, 83, 32, 49, 46, 48, 32]
def info (label context : Lb) (n : Nat) : List UInt8 := Wire.be 2 n ++ Wire.vec (N1 ++ label) ++ Wire.vec context
def label (secret l context : Lb) (n : Nat) : List UInt8 := expand secret (info l context n) n
end Kdf
end
open Go.RowKit Tryz
theorem Own.made (w : aa9) (base cap : Nat) (cur : Array Value) (hb : base ≤ w.heap.size) (hm : cap ≤ maxLen) (hs : cur.size = cap) : Own (w.alloc (.cells cur 5)) base (some ⟨w.heap.size, 0, none⟩) 0 cap [] :=
 World.ownsRow_made w cur cap hb hm Om
set_option maxHeartbeats 400000 in
theorem kF (A : Oa) (n c : Nat) (xs : Lb) (w : aa9) (ha : Bs w A n xs) (hn : n ≤ 140737488355328) :
  Calls Tryz.prog 181 #[.slice A n c] w fun e w' => ∃ A' c', e = .returned (.slice A' n c') ∧ Own w' w.heap.size A' n c' xs ∧ Below w.heap.size w w' := by
 have heq := fun (w : aa9) => Lib.run_eql_slice_nil (P := Tryz.prog) w _ _ A n c 0 0 underlying23;rcases A with _ | ad
 ·have hx : xs = [] := by
   rcases ha.2 with h | ⟨b, off, h, _⟩
   ·simpa using h
   cases h
  have YW : n = 0 := by rw [← ha.1, hx]; rfl
  subst hx; subst YW;go_enter func181, ntmps181;go_wp2;go_ret;exact ⟨none, 0, rfl, Own.empty _ _, Below.refl _ _⟩
 have HA := Lib.hid ha;clear ha;go_enter func181, ntmps181;go_wp2_with (at_builtin; refine fL (w0 := w) rfl _ _ _ rfl _ _ bV w.heap.size _ 0 [] rfl (Own.made w w.heap.size 0 #[] (Nat.le_refl _) Om rfl) (some ad) n c (xs.map bv) rfl (by rw [List.length_map]; exact HA.out.1) (HA.out.2.below ((Below.refl _ _).alloc (Nat.le_refl _) _)) aJ ?_ ?_ ((Below.refl _ _).alloc (Nat.le_refl _) _) ?_ ?_; rotate_right; intro A2 c2 w2 YU YV _ _)
 ·go_ret;refine ⟨A2, c2, rfl, ?_, YV⟩;rw [Nat.zero_add] at YU;exact YU
 ·omega
 ·omega
 simp
theorem Vw : (Tryz.prog.info? 5).map (fun i => (i.zero, i.size, i.bytes)) = some (some (.int .u8 0), 1, 1) := by kernel_rfl
set_option maxHeartbeats 400000 in
theorem Me (n : Nat) (w : aa9) (hn : n ≤ 140737488355328) :
  Calls Tryz.prog 230 #[.slice none 0 0, .int .i64 n] w fun e w' => ∃ A' c', e = .returned (.slice A' 0 c') ∧ Own w' w.heap.size A' 0 c' [] ∧ Below w.heap.size w w' := by
 by_cases h0 : 0 < n
 ·obtain ⟨i, hi, hz, hs, hb⟩ := info_parts Vw;have aa8 := fun (ty : TypeId) => Lib.run_append_nil_zeros (P := Tryz.prog) w 23 3 ty 5 i _ .i64 .i64 underlying23 underlying3 hi hz n h0 Om Om (by rw [hb]; omega);have hge := grownCap_ge w n 0 5;have hle := grownCap_le_maxLen w n 0 5 (by unfold maxLen; omega)
  generalize grownCap w n 0 5 = cap at *
  have HR := Lib.hid aa8;clear aa8 hz hs hb hi;go_enter func230, ntmps230;go_wp2_with (at_builtin; refine Lib.wpList_append_run w rfl (.tmp 20) (.tmp 21) _ _ rfl _ _ rfl rfl _ _ (HR.out _) ?_);go_ret;refine ⟨_, _, rfl, ?_, ((Below.refl _ _).drew).alloc (by simp) _⟩;exact Own.made w.drew w.heap.size cap _ (Nat.le_refl _) hle (by simp [Builtin.zeroCells]; omega)
 obtain rfl : n = 0 := Om
 go_enter func230, ntmps230;go_wp2;go_ret;exact ⟨none, 0, rfl, Own.empty _ _, Below.refl _ _⟩
set_option maxHeartbeats 1000000 in
theorem ir (A : Oa) (n c : Nat) (xss : List (List UInt8)) (w : aa9) (ha : sL w A n xss) (hn : n ≤ 70368744177664) (hlen : xss.flatten.length ≤ 70368744177664) :
  Calls Tryz.prog 184 #[.slice A n c] w fun e w' => ∃ A' m c', e = .returned (.slice A' m c') ∧ Own w' w.heap.size A' m c' xss.flatten ∧ Below w.heap.size w w' := by
 have HA := Lib.hid ha;have HN : Hid (xss.length = n) := ha.1;clear ha;go_enter func184, ntmps184;go_wp2;go_loop [3, 5, 11] (fun s _ i => ∃ k F : Nat, k ≤ n ∧ i = .int .i64 k ∧ s = .int .i64 F ∧ F = (xss.take k).flatten.length) (fun _ _ i => n - (intOf i).toNat);case atStart => exact ⟨0, 0, Om, rfl, rfl, rfl⟩
 case round =>
  obtain ⟨k, F, hk, rfl, rfl, hF⟩ := hrel
  have YV := iS xss k
  rw [← hF] at YV
  have Y2 : F ≤ 70368744177664 := Nat.le_trans YV hlen
  have HF := Lib.hid hF
  clear hF YV
  by_cases hlt : k < n
  ·obtain ⟨b, off, B, m, c1, xs, rfl, hxs, aa7, hB⟩ := HA.out.get hlt
   have hsum : (xss.take (k + 1)).flatten.length = F + m := by rw [gv _ _ (by rw [HN.out]; exact hlt), List.length_append, ← hxs.out, hB.1, ← HF.out]
   have hle := iS xss (k + 1)
   rw [hsum] at hle
   have HS := Lib.hid hsum
   have Y3 : F + m ≤ 70368744177664 := Nat.le_trans hle hlen
   have hq : (k : Int) < n := Om
   clear hsum hle hB hlen
   go_wp2
   go_round
   case rel => exact ⟨k + 1, F + m, Om, by go_num, by go_num, HS.out.symm⟩
   case measure => simp [intOf]; omega
  go_wp2_with fail
  refine (Me _ _ Om).mono ?_
  rintro e _ ⟨A1, c1, rfl, YU, YZ⟩
  have HO := Lib.hid YU; have HB := Lib.hid YZ
  clear YU YZ
  go_wp2
  go_loopw [6, 8, 27] (fun v _ i wr => ∃ (k m : Nat) (A' : Oa) (c' : Nat), k ≤ n ∧ i = .int .i64 k ∧ v = .slice A' m c' ∧ Below w.heap.size w wr ∧ Own wr w.heap.size A' m c' (xss.take k).flatten) (fun _ _ i _ => n - (intOf i).toNat)
  case atStart => exact ⟨0, 0, A1, c1, Om, rfl, rfl, HB.out, HO.out⟩
  case round =>
   obtain ⟨k, m, A', c', hk, rfl, rfl, hbw, aa5⟩ := hrel
   by_cases YW : k < n
   ·obtain ⟨b, off, B, mm, c2, xs, rfl, hxs, aa7, hB⟩ := (HA.out.below hbw).get YW
    have hm := aa5.len
    have hle := iS xss (k + 1)
    rw [gv _ _ (by rw [HN.out]; exact YW), List.length_append, ← hxs.out, hB.1, hm] at hle
    have hq : (k : Int) < n := Om
    have Y0 := Lib.hid hB
    clear hm hB
    go_wp2_with (at_builtin; refine fL (w0 := w) rfl _ _ _ rfl _ _ bV w.heap.size _ _ _ rfl aa5 _ _ _ (xs.map bv) rfl (by rw [List.length_map]; exact Y0.out.1) Y0.out.2 aJ ?_ ?_ hbw ?_ ?_; rotate_right; intro A2 c2 w2 YX YY _ _)
    ·go_roundw
     case rel => exact ⟨k + 1, _, A2, c2, Om, by go_num, rfl, YY, (Own.app YX).congr rfl (by rw [gv _ _ (by rw [HN.out]; exact YW), ← hxs.out])⟩
     case measure => simp [intOf]; omega
    ·omega
    ·omega
    exact hbw.size
   go_wp2
   go_ret
   exact ⟨A', m, c', rfl, aa5.congr rfl (by rw [List.take_of_length_le (by rw [HN.out]; omega)]), hbw⟩
end Go.Proofs.YtgfafidlkldeaaaGreat
