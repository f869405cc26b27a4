/- Single operations more: fields, pointers held against nil, parts of blocks, arrays and structs built, functions made and called. More single laws: functions without a body that make memory, cuts with three places, results of two kinds. No conditions: plain lemmas of the model. A region that draws its order, by a base: all that is turned in it was made in it; what makes memory of nothing floats till it is wanted. No conditions: plain lemmas of the model. -/
import Derived.Test.YtgfafidlkldeaaaGreatVc
import Derived.Laws.BitsAllLaws
import Derived.IntWalk
import Derived.Lib.SlBytesConst
import Derived.Lib.ConvBytes
import Derived.Lib.SliceRun
import Derived.Lib.AppendZeros
import Derived.Laws.Pointers
import Derived.Lib.MakeNoZero
import Derived.Laws.Externs
import Derived.Laws.ResultCell
set_option linter.unusedVariables false
set_option linter.unusedSimpArgs false
namespace Go.Proofs.YtgfafidlkldeaaaGreat
variable {a : Act} {ad : Addr} {ps : Array (Nat × Operand)} {listed : Array Bool} {after : Array Edge} {fs : Array Field} {ops : Array Oper} {ats ts : Array TypeId} {Z args cells cs cs' cur old : Array Value} {b' : Bool} {Q : Exit → Act → World → Prop} {fn : Func} {f : FuncId} {k k' k2 : IntKind} {L qs : List (Nat × Value)} {js l : List Nat} {rest : List Oper} {us vs xs ys : List Value} {b base base2 c c' c2 g h i id j m n n' o off s sz : Nat} {N : Nd} {A A' B : Oa} {op : Op} {oi : Oper} {x y z : Operand} {dst : Option Tmp} {P : Program} {q : Prop} {pos : String} {d : TypeDesc} {dT e e2 ft sT t t' tb ty : TypeId} {u v : Value} {w w' w'' w0 w1 : World}
section
section
open Go.RowKit
section
variable {a b c : Int}
theorem aY (hx : ev L x = some v) : Y P L w (.move x) ty v := fun ρ hρ w' _ _ _ _ _ => by simp [execOp, hρ _ _ hx]
theorem fp (hx : ev L x = some v) : Y P L w (.assign x) ty v := fun ρ hρ w' _ _ _ _ _ => by simp [execOp, hρ _ _ hx]
theorem qS (hx : ev L x = some (.slice A n m)) (hu : P.underlying t = some (.slice e)) : Y P L w (.call { callee := .builtin .len, args := #[x], argTypes := #[t] }) ty (.int .i64 (n : Int)) := fun ρ hρ w' _ _ _ _ _ => by simp [execOp, resolve, invoke, builtin, hρ _ _ hx, Builtin.len_, run_underlying hu, goInt]
theorem FN {s : ByteArray} (hx : ev L x = some (.string s)) (hu : P.underlying t = some .string) : Y P L w (.call { callee := .builtin .len, args := #[x], argTypes := #[t] }) ty (.int .i64 (s.size : Int)) := fun ρ hρ w' _ _ _ _ _ => by simp [execOp, resolve, invoke, builtin, hρ _ _ hx, Builtin.len_, run_underlying hu, goInt]
theorem CU (hx : ev L x = some (.int k a)) (hy : ev L y = some (.int k' b)) : Y P L w (.call { callee := .builtin .min, args := #[x, y], argTypes := ts }) ty (.int k (if b < a then b else a)) := fun ρ hρ w' _ _ _ _ _ => by simp [execOp, resolve, invoke, builtin, hρ _ _ hx, hρ _ _ hy, Builtin.min_, Builtin.min2]
/-! Tests. -/
theorem eX (hx : ev L x = some (.int k a)) (hy : ev L y = some (.int k b)) : Y P L w (.binOp .lss t x y t') ty (.bool (decide (a < b))) := fun ρ hρ w' _ _ _ _ _ => by simp [execOp, hρ _ _ hx, hρ _ _ hy, eqGuard, binOp, Op.intCmp]
theorem qC (hx : ev L x = some (.int k a)) (hy : ev L y = some (.int k b)) : Y P L w (.binOp .leq t x y t') ty (.bool (decide (a ≤ b))) := fun ρ hρ w' _ _ _ _ _ => by simp [execOp, hρ _ _ hx, hρ _ _ hy, eqGuard, binOp, Op.intCmp]
theorem iY (hx : ev L x = some (.int k a)) (hy : ev L y = some (.int k b)) : Y P L w (.binOp .gtr t x y t') ty (.bool (decide (b < a))) := fun ρ hρ w' _ _ _ _ _ => by simp [execOp, hρ _ _ hx, hρ _ _ hy, eqGuard, binOp, Op.intCmp]
theorem vy (hx : ev L x = some (.int k a)) (hy : ev L y = some (.int k b)) : Y P L w (.binOp .geq t x y t') ty (.bool (decide (b ≤ a))) := fun ρ hρ w' _ _ _ _ _ => by simp [execOp, hρ _ _ hx, hρ _ _ hy, eqGuard, binOp, Op.intCmp]
theorem MJ (a b : Int) : (a == b) = decide (a = b) := by grind
theorem MQ (a b : Int) : (a != b) = decide (a ≠ b) := by grind
theorem cO (hx : ev L x = some (.int k a)) (hy : ev L y = some (.int k b)) : Y P L w (.binOp .eql t x y t') ty (.bool (decide (a = b))) := fun ρ hρ w' _ _ _ _ _ => by simp [execOp, hρ _ _ hx, hρ _ _ hy, eqGuard, binOp, Op.intCmp, MJ]
theorem gO (hx : ev L x = some (.int k a)) (hy : ev L y = some (.int k b)) : Y P L w (.binOp .neq t x y t') ty (.bool (decide (a ≠ b))) := fun ρ hρ w' _ _ _ _ _ => by simp only [execOp, hρ _ _ hx, hρ _ _ hy, eqGuard, binOp, Op.intCmp, MQ]; simp
theorem Qw {p q : Bool} (hx : ev L x = some (.bool p)) (hy : ev L y = some (.bool q)) (hu : P.underlying t = some .bool) : Y P L w (.binOp .eql t x y t') ty (.bool (p == q)) := fun ρ hρ w' _ _ _ _ _ => by have h := run_eql_bool (P := P) w' t p q hu;simp only [execOp, hρ _ _ hx, hρ _ _ hy, eqGuard];simp [h]
theorem nr {p : Bool} (hx : ev L x = some (.bool p)) : Y P L w (.unOp .not t x) ty (.bool (!p)) := fun ρ hρ w' _ _ _ _ _ => by simp [execOp, hρ _ _ hx, Op.unary]
theorem Y.as (h : Y P L w op ty u) (e : u = v) : Y P L w op ty v := e ▸ h
/-! A test on which the walk parts. -/
section
variable {d : Tmp} {p : Prop} [Decidable p] {b : Bool}
theorem lJ (h : Y P L w op ty (.bool b)) (hd : Nat.ble (d + 1) N.n = true) (ht : b = true → WL P ops Q rest N ((d, .bool true) :: L) w) (hf : b = false → WL P ops Q rest N ((d, .bool false) :: L) w) : WL P ops Q (⟨some d, op, ty, pos, after, none⟩ :: rest) N L w := by
 cases b
 ·exact Np h hd (hf rfl)
 exact Np h hd (ht rfl)
theorem Ga (t : Tmp) (hj : (ops[j]?).bind (·.dst) = some t) (hg : look L t = some (.bool b')) (h : Y P L w op ty (.bool b)) (hd : Nat.ble (d + 1) N.n = true) (ht : b = true → WL P ops Q rest N ((d, .bool true) :: L) w) (hf : b = false → WL P ops Q rest N ((d, .bool false) :: L) w) : WL P ops Q (⟨some d, op, ty, pos, after, some (j, b')⟩ :: rest) N L w := by
 cases b
 ·exact Du t hj hg h hd (hf rfl)
 exact Du t hj hg h hd (ht rfl)
theorem bf (h : Y P L w op ty (.bool (decide p))) (hd : Nat.ble (d + 1) N.n = true) (ht : p → WL P ops Q rest N ((d, .bool true) :: L) w) (hf : ¬ p → WL P ops Q rest N ((d, .bool false) :: L) w) : WL P ops Q (⟨some d, op, ty, pos, after, none⟩ :: rest) N L w :=
 lJ h hd (fun e => ht (of_decide_eq_true e)) (fun e => hf (of_decide_eq_false e))
theorem aG (t : Tmp) (hj : (ops[j]?).bind (·.dst) = some t) (hg : look L t = some (.bool b')) (h : Y P L w op ty (.bool (decide p))) (hd : Nat.ble (d + 1) N.n = true) (ht : p → WL P ops Q rest N ((d, .bool true) :: L) w) (hf : ¬ p → WL P ops Q rest N ((d, .bool false) :: L) w) : WL P ops Q (⟨some d, op, ty, pos, after, some (j, b')⟩ :: rest) N L w :=
 Ga t hj hg h hd (fun e => ht (of_decide_eq_true e)) (fun e => hf (of_decide_eq_false e))
end
/-! Numbers. -/
theorem aN (hx : ev L x = some (.int k a)) (hy : ev L y = some (.int k b)) (h : k.wrap (a + b) = c) : Y P L w (.binOp .add t x y t') ty (.int k c) := fun ρ hρ w' _ _ _ _ _ => by simp [execOp, hρ _ _ hx, hρ _ _ hy, eqGuard, binOp, Op.intArith, h]
theorem fI (hx : ev L x = some (.int k a)) (hy : ev L y = some (.int k b)) (h : k.wrap (a - b) = c) : Y P L w (.binOp .sub t x y t') ty (.int k c) := fun ρ hρ w' _ _ _ _ _ => by simp [execOp, hρ _ _ hx, hρ _ _ hy, eqGuard, binOp, Op.intArith, h]
theorem cL (hx : ev L x = some (.int k a)) (hy : ev L y = some (.int k b)) (h : k.wrap (a * b) = c) : Y P L w (.binOp .mul t x y t') ty (.int k c) := fun ρ hρ w' _ _ _ _ _ => by simp [execOp, hρ _ _ hx, hρ _ _ hy, eqGuard, binOp, Op.intArith, h]
theorem dG (hx : ev L x = some (.int k a)) (hy : ev L y = some (.int k b)) (h0 : b ≠ 0) (h : k.wrap (a.tdiv b) = c) : Y P L w (.binOp .quo t x y t') ty (.int k c) := fun ρ hρ w' _ _ _ _ _ => by simp [execOp, hρ _ _ hx, hρ _ _ hy, eqGuard, binOp, Op.intDiv, h0, h]
theorem ck (hx : ev L x = some (.int k a)) (hy : ev L y = some (.int k b)) (h0 : b ≠ 0) (h : a.tmod b = c) : Y P L w (.binOp .rem t x y t') ty (.int k c) := fun ρ hρ w' _ _ _ _ _ => by simp [execOp, hρ _ _ hx, hρ _ _ hy, eqGuard, binOp, Op.intDiv, h0, h]
theorem gd (hx : ev L x = some (.int k a)) (hy : ev L y = some (.int k' b)) (h0 : 0 ≤ b) (h : k.wrap (a * 2 ^ min b.toNat k.bits) = c) : Y P L w (.binOp .shl t x y t') ty (.int k c) := fun ρ hρ w' _ _ _ _ _ => by simp [execOp, hρ _ _ hx, hρ _ _ hy, eqGuard, binOp, shift_shl_any _ _ _ _ h0, h]
theorem cB (hx : ev L x = some (.int k a)) (hy : ev L y = some (.int k' b)) (h0 : 0 ≤ b) (h : a / 2 ^ min b.toNat k.bits = c) : Y P L w (.binOp .shr t x y t') ty (.int k c) := fun ρ hρ w' _ _ _ _ _ => by simp [execOp, hρ _ _ hx, hρ _ _ hy, eqGuard, binOp, shift_shr_any _ _ _ _ h0, h]
theorem cV (hx : ev L x = some (.int k a)) (hy : ev L y = some (.int k b)) (h : bits .and k a b = c) : Y P L w (.binOp .and t x y t') ty (.int k c) := fun ρ hρ w' _ _ _ _ _ => by subst h; simp [execOp, hρ _ _ hx, hρ _ _ hy, eqGuard, binOp, Op.intBits, bits]
theorem jN (hx : ev L x = some (.int k a)) (hy : ev L y = some (.int k b)) (h : bits .or k a b = c) : Y P L w (.binOp .or t x y t') ty (.int k c) := fun ρ hρ w' _ _ _ _ _ => by subst h; simp [execOp, hρ _ _ hx, hρ _ _ hy, eqGuard, binOp, Op.intBits, bits]
theorem bP (hx : ev L x = some (.int k a)) (hy : ev L y = some (.int k b)) (h : bits .xor k a b = c) : Y P L w (.binOp .xor t x y t') ty (.int k c) := fun ρ hρ w' _ _ _ _ _ => by subst h; simp [execOp, hρ _ _ hx, hρ _ _ hy, eqGuard, binOp, Op.intBits, bits]
theorem y6 (hx : ev L x = some (.int k a)) (hy : ev L y = some (.int k b)) (h : bits .andNot k a b = c) : Y P L w (.binOp .andNot t x y t') ty (.int k c) := fun ρ hρ w' _ _ _ _ _ => by subst h; simp [execOp, hρ _ _ hx, hρ _ _ hy, eqGuard, binOp, Op.intBits, bits]
theorem Ju (hx : ev L x = some (.int k a)) (h : k.wrap (0 - a) = c) : Y P L w (.unOp .neg t x) ty (.int k c) := fun ρ hρ w' _ _ _ _ _ => by subst h; simp only [execOp, hρ _ _ hx, Op.unary, Op.intArith]; simp
theorem I0 (hx : ev L x = some (.int k a)) (hs : k.signed = false) (h : bits .xor k k.max a = c) : Y P L w (.unOp .xor t x) ty (.int k c) := fun ρ hρ w' _ _ _ _ _ => by subst h; simp only [execOp, hρ _ _ hx, Op.unary, Op.intBits, bits, hs]; simp
theorem bo (hx : ev L x = some (.int k a)) (hs : P.underlying t = some d) (hu : P.underlying t' = some (.int k2)) (h : k2.wrap a = c) : Y P L w (.convert t t' x) ty (.int k2 c) := fun ρ hρ w' _ _ _ _ _ => by
 subst h
 have hc : (convert t t' (.int k a)).run P w' = .ok (.int k2 (k2.wrap a)) w' := by unfold convert;simp only [Sem.run_bind, run_underlying hs, run_underlying hu, Result.andThen_ok];cases d <;> rfl
 simp [execOp, hρ _ _ hx, hc]
theorem bH {p q : Nat} (hp : p < 256) (hq : q < 256) : bits .and .u8 p q = ((p &&& q : Nat) : Int) ∧ bits .or .u8 p q = ((p ||| q : Nat) : Int) ∧ bits .xor .u8 p q = ((p ^^^ q : Nat) : Int) :=
 ⟨by have := u8_and p q Om Om Om Om; grind, by have := u8_or p q Om Om Om Om; grind, by have := u8_xor p q Om Om Om Om; grind⟩
theorem cD {p q : Nat} (hp : p < 18446744073709551616) (hq : q < 18446744073709551616) : bits .and .u64 p q = ((p &&& q : Nat) : Int) ∧ bits .or .u64 p q = ((p ||| q : Nat) : Int) ∧ bits .xor .u64 p q = ((p ^^^ q : Nat) : Int) :=
 ⟨by have := u64_and p q Om Om Om Om; grind, by have := u64_or p q Om Om Om Om; grind, by have := u64_xor p q Om Om Om Om; grind⟩
/-! Addresses. -/
theorem bJ (h : (P.info? e).map (·.size) = some n) (w : World) : (sizeOf e).run P w = .ok n w := by
 cases hi : P.info? e with
 | none => simp [hi] at h
 | some i => simp [hi] at h; simp [sizeOf, typeInfo, hi, h]
theorem OI {A : Addr} (hx : ev L x = some (.slice (some A) n m)) (hy : ev L y = some (.int k a)) (hu : P.underlying t = some (.slice e)) (hs : (P.info? e).map (·.size) = some s) (ha : a = (j : Int)) (hj : j < n) :
  Y P L w (.indexAddr t x y) ty (.pointer (some (A.add (j * s)))) := fun ρ hρ w' _ _ _ _ _ => by
 subst ha;simp [execOp, hρ _ _ hx, hρ _ _ hy, Instr.indexAt, asIntOf, run_underlying hu, bJ hs, hj]
theorem aB {b' : Nat} (hx : ev L x = some (.slice (some ⟨b', off, none⟩) n m)) (hy : ev L y = some (.int k a)) (hu : P.underlying t = some (.slice e)) (hs : (P.info? e).map (·.size) = some 1) (ha : a = (j : Int)) (hj : j < n) :
  Y P L w (.indexAddr t x y) ty (.pointer (some ⟨b', off + j, none⟩)) := by
 have h := OI (w := w) (ty := ty) hx hy hu hs ha hj;rw [add_lit, Nat.mul_one] at h;exact h
theorem Oy {A : Addr} (hx : ev L x = some (.pointer (some A))) (hy : ev L y = some (.int k a)) (hu : P.underlying t = some (.array n e)) (hs : (P.info? e).map (·.size) = some s) (ha : a = (j : Int)) (hj : j < n) :
  Y P L w (.indexAddr t x y) ty (.pointer (some (A.add (j * s)))) := fun ρ hρ w' _ _ _ _ _ => by
 subst ha;simp [execOp, hρ _ _ hx, hρ _ _ hy, Instr.indexAt, asIntOf, run_underlying hu, bJ hs, hj, Instr.sureAddr]
theorem bS {b' : Nat} (hx : ev L x = some (.pointer (some ⟨b', off, none⟩))) (hy : ev L y = some (.int k a)) (hu : P.underlying t = some (.array n e)) (hs : (P.info? e).map (·.size) = some 1) (ha : a = (j : Int)) (hj : j < n) :
  Y P L w (.indexAddr t x y) ty (.pointer (some ⟨b', off + j, none⟩)) := by
 have h := Oy (w := w) (ty := ty) hx hy hu hs ha hj;rw [add_lit, Nat.mul_one] at h;exact h
theorem po {n j : Nat} {e : TypeId} {cs : Array Value} {v : Value} {d : TypeDesc} (hx : ev L x = some (.agg cs)) (hy : ev L y = some (.int k a)) (hu : P.underlying t = some (.array n e)) (he : P.underlying e = some d) (hd : (match d with | .struct _ | .array _ _ => false | _ => true) = true)
  (hs : (P.info? e).map (·.size) = some 1) (ha : a = (j : Int)) (hj : j < n) (hv : cs[j]? = some v) : Y P L w (.index t x y) ty v := fun ρ hρ w' _ _ _ _ _ => by
 subst ha
 have hagg : (isAgg e).run P w' = .ok false w' := by
  unfold isAgg;rw [Sem.run_bind, run_underlying he w']
  cases d <;> first | rfl | (simp at hd)
 simp [execOp, hρ _ _ hx, hρ _ _ hy, Instr.index, asIntOf, run_underlying hu, bJ hs, hj, part, hagg, hv]
theorem af {ad : Addr} {v : Value} {d : TypeDesc} (hx : ev L x = some (.pointer (some ad))) (hu : P.underlying t = some d) (hd : (match d with | .struct _ | .array _ _ => false | _ => true) = true) (hc : w.cell? ad = some v) : Y P L w (.load t x) ty v := fun ρ hρ w' e _ _ _ _ => by
 have hc' : w'.cell? ad = some v := (e.cell (dX hc)).trans hc
 have hagg : (isAgg t).run P w' = .ok false w' := by
  unfold isAgg;rw [Sem.run_bind, run_underlying hu w']
  cases d <;> first | rfl | (simp at hd)
 simp [execOp, hρ _ _ hx, Instr.loadAt, Instr.sureAddr, loadVar, hagg, hc']
theorem aW {g : Nat} {e : TypeId} {cs : Array Value} {d : TypeDesc} (hx : ev L x = some (.pointer (some ⟨g, 0, none⟩))) (hu : P.underlying t = some d) (hd : (match d with | .struct _ | .array _ _ => true | _ => false) = true) (hs : (P.info? t).map (·.size) = some cs.size)
  (hg : ao w g e cs) : Y P L w (.load t x) ty (.agg cs) := fun ρ hρ w' ex _ _ _ _ => by
 have hg' : ao w' g e cs := hg.kept ex;have h := run_loadVar_row (P := P) w' g e t cs (0, 0) d hg' hu hd hs;simp [execOp, hρ _ _ hx, Instr.loadAt, Instr.sureAddr, h]
theorem dA {vs : Array Value} (hx : ev L x = some (.tuple vs)) (hv : vs.toList[i]? = some v) : Y P L w (.extract x i) ty v := fun ρ hρ w' _ _ _ _ _ => by
 have hv' : vs[i]? = some v := by simpa using hv
 simp [execOp, hρ _ _ hx, Instr.extract, hv']
theorem GN (hx : ev L x = some (.pointer (some ad))) : Y P L w (.nilCheck x) ty (.pointer (some ad)) := fun ρ hρ w' _ _ _ _ _ => by simp [execOp, hρ _ _ hx]
/-! Cuts of slices. -/
def lE (A : Oa) (c l s : Nat) : Option Addr := if c = l then A else A.map (·.add (l * s))
theorem pH (hx : ev L x = some (.slice A n c')) (hy : ev L y = some (.int k a)) (hu : P.underlying t = some (.slice e)) (hs : (P.info? e).map (·.size) = some s) (ha : a = (j : Int)) (hj : j ≤ n) :
  Y P L w (.slice t x (some y) none none) ty (.slice (lE A c' j s) (n - j) (c' - j)) := fun ρ hρ w' _ _ _ _ _ => by
 subst ha
 have hb : ((Instr.sliceBounds true n c' (some (.int k j)) none none).run P w') = .ok (j, n, c') w' := by simp [Instr.sliceBounds, Instr.sliceBound, asIntOf, hj]
 simp [execOp, hρ _ _ hx, hρ _ _ hy, Instr.sliceAt, Instr.slice, run_underlying hu, hb, bJ hs, lE]
theorem lV (hx : ev L x = some (.slice A n c')) (hy : ev L y = some (.int k a)) (hu : P.underlying t = some (.slice e)) (hs : (P.info? e).map (·.size) = some s) (ha : a = (j : Int)) (hj : j ≤ c') :
  Y P L w (.slice t x none (some y) none) ty (.slice A j c') := fun ρ hρ w' _ _ _ _ _ => by
 subst ha
 have hb : ((Instr.sliceBounds true n c' none (some (.int k j)) none).run P w') = .ok (0, j, c') w' := by simp [Instr.sliceBounds, Instr.sliceBound, asIntOf, hj]
 have hA : (if c' = 0 then A else A.map (·.add (0 * s))) = A := by
  split
  ·rfl
  cases A <;> simp [Addr.add]
 simp [execOp, hρ _ _ hx, hρ _ _ hy, Instr.sliceAt, Instr.slice, run_underlying hu, hb, bJ hs];grind
theorem wZ (hx : ev L x = some (.slice A n c')) (hy : ev L y = some (.int k a)) (hz : ev L z = some (.int k2 b)) (hu : P.underlying t = some (.slice e)) (hs : (P.info? e).map (·.size) = some s) (ha : a = (j : Int)) (hb' : b = (h : Int)) (hj : j ≤ h) (hh : h ≤ c') :
  Y P L w (.slice t x (some y) (some z) none) ty (.slice (lE A c' j s) (h - j) (c' - j)) := fun ρ hρ w' _ _ _ _ _ => by
 subst ha; subst hb'
 have hb : ((Instr.sliceBounds true n c' (some (.int k j)) (some (.int k2 h)) none).run P w') = .ok (j, h, c') w' := by simp [Instr.sliceBounds, Instr.sliceBound, asIntOf, hj, hh]
 simp [execOp, hρ _ _ hx, hρ _ _ hy, hρ _ _ hz, Instr.sliceAt, Instr.slice, run_underlying hu, hb, bJ hs, lE]
theorem yG {A : Addr} (hx : ev L x = some (.pointer (some A))) (hu : P.underlying t = some (.array n e)) (hs : (P.info? e).map (·.size) = some s) : Y P L w (.slice t x none none none) ty (.slice (some A) n n) := fun ρ hρ w' _ _ _ _ _ => by simp [execOp, hρ _ _ hx, Instr.sliceAt, Instr.sureAddr, Instr.sliceBounds, run_underlying hu, bJ hs, Addr.add]
theorem Bs.lE {c : Nat} {xs : Lb} (h : Bs w A n xs) (hj : j ≤ n) (hc : n ≤ c) : Bs w (lE A c j 1) (n - j) (xs.drop j) := by unfold Go.Proofs.YtgfafidlkldeaaaGreat.lE;rw [Nat.mul_one];exact h.cut hj hc
end
/-! Facts that live on: '.ext'. -/
theorem _root_.Go.RowKit.Below.ext {a b c : World} (h : Ext a b) (k : Ext b c) : Ext a c := h.tr k
section
theorem Bs.ext {xs : Lb} (h : Bs w A n xs) (k : Ext w w') : Bs w' A n xs := h.below k
theorem rO.ext {xss : List (List UInt8)} (h : rO w A n xss) (k : Ext w w') : rO w' A n xss := h.below k
theorem ao.ext (h : ao w g t cs) (k : Ext w w') : ao w' g t cs := h.kept k
theorem Nw.ext (h : Nw base w A) (k : Ext w w') : Nw base w' A := fun b o e => by obtain ⟨h1, t, cur, hb⟩ := h b o e; exact ⟨h1, t, cur, ao.ext hb k⟩
theorem At.ext (h : At w A xs) (k : Ext w w') : At w' A xs := h.below k
def Row (w : World) (base : Nat) (e : TypeId) (A : Oa) (n c : Nat) (xs : List Value) : Prop := w.ownsRow base e 1 (.slice A n c) n xs
theorem Row.ext (h : Row w base e A n c xs) (k : Ext w w') : Row w' base e A n c xs :=
 World.ownsRow.kept (row := none) h ⟨k.os, k.tape, k.output, k.size, fun j hj _ => k.block j hj⟩ (by grind)
theorem Row.at (h : Row w base e A n c xs) : At w A xs := GU h
theorem Row.len (h : Row w base e A n c xs) : xs.length = n := by have := h.1; omega
theorem Row.lower (h : Row w base e A n c xs) (hb : b ≤ base) : Row w b e A n c xs := by
 refine ⟨h.1, ?_⟩
 rcases h.2 with h | ⟨g, cap, cur, hv, hg, r⟩
 ·exact .inl h
 exact .inr ⟨g, cap, cur, hv, by omega, r⟩
theorem Row.empty (w : World) (base : Nat) (e : TypeId) : Row w base e none 0 0 [] := World.ownsRow_nil _ _ _ _
theorem Row.new (h : ao w g e cs) (hb : base ≤ g) (hn : cs.size = n) (hm : n ≤ maxLen) : Row w base e (some ⟨g, 0, none⟩) n n cs.toList :=
 ⟨by simp [hn], .inr ⟨g, n, cs, rfl, hb, h, Nat.le_refl _, hm, by omega, by rw [List.take_of_length_le (by simp [hn])]⟩⟩
end
theorem MD (hx : ev L z = some (.bool true)) (hy : ev L x = some v) : Y P L w (.pick z x y) ty v := fun ρ hρ w' _ _ _ _ _ => by simp [execOp, hρ _ _ hx, hρ _ _ hy, asBool]
theorem NX (hx : ev L z = some (.bool false)) (hy : ev L y = some u) : Y P L w (.pick z x y) ty u := fun ρ hρ w' _ _ _ _ _ => by simp [execOp, hρ _ _ hx, hρ _ _ hy, asBool]
/-! Calls. -/
section
variable {xs : List Operand} {R : Ending → World → Prop} {c : Code}
theorem kU {G : Value → World → Prop} (hf : P.funcs[f]? = some fn) (hb : fn.body = some c) (hn : (fn.name == "runtime.NumGoroutine") = false) (hx : qe L xs = some vs) (h : Calls P f vs.toArray w R) (hr : ∀ e w', R e w' → ∃ v, e = .returned v ∧ G v w') :
  Ef P L w (.call { callee := .value (.func f), args := xs.toArray, argTypes := ats }) ty G := rP hf hb hn hx h hr
theorem L9 (hf : P.funcs[f]? = some fn) (hb : fn.body = some c) (hn : (fn.name == "runtime.NumGoroutine") = false) (hx : qe L xs = some vs) (h : Calls P f vs.toArray w R) (hd : jO N dst = true)
  (hr : ∀ e w', R e w' → ∃ v, e = .returned v ∧ WL P ops Q rest N (cG dst v L) w') : WL P ops Q (⟨dst, .call { callee := .value (.func f), args := xs.toArray, argTypes := ats }, ty, pos, after, none⟩ :: rest) N L w :=
 ag (rP (Φ := fun v w' => WL P ops Q rest N (cG dst v L) w') hf hb hn hx h hr) hd fun _ _ h => h
theorem fJ {b : Bool} (t : Tmp) (hj : (ops[j]?).bind (·.dst) = some t) (ht : look L t = some (.bool b)) (hf : P.funcs[f]? = some fn) (hb : fn.body = some c) (hn : (fn.name == "runtime.NumGoroutine") = false) (hx : qe L xs = some vs) (h : Calls P f vs.toArray w R) (hd : jO N dst = true)
  (hr : ∀ e w', R e w' → ∃ v, e = .returned v ∧ WL P ops Q rest N (cG dst v L) w') : WL P ops Q (⟨dst, .call { callee := .value (.func f), args := xs.toArray, argTypes := ats }, ty, pos, after, some (j, b)⟩ :: rest) N L w :=
 Lx t hj ht (rP (Φ := fun v w' => WL P ops Q rest N (cG dst v L) w') hf hb hn hx h hr) hd fun _ _ h => h
theorem eW (hi : ops[i]? = some ⟨dst, .call { callee := .value (.func f), args := xs.toArray, argTypes := ats }, ty, pos, after, none⟩) (hf : P.funcs[f]? = some fn) (hb : fn.body = some c) (hn : (fn.name == "runtime.NumGoroutine") = false) (hx : qe L xs = some vs) (h : Calls P f vs.toArray w R) (hd : jO N dst = true)
  (hr : ∀ e w', R e w' → ∃ v, e = .returned v ∧ (turns ops i = true ∨ Ext w w') ∧ WM P ops Q n (listed.setIfInBounds i true) N (cG dst v L) w') : cv P ops Q n listed i N L w :=
 aQ hi (rP (Φ := fun v w' => (turns ops i = true ∨ Ext w w') ∧ WM P ops Q n (listed.setIfInBounds i true) N (cG dst v L) w') hf hb hn hx h hr) hd fun _ _ h => h
end
theorem Ef.run {Φ : Value → World → Prop} (h : ∀ ρ : Operand → Value, (∀ x u, ev L x = some u → ρ x = u) → ∃ v w', Φ v w' ∧ ∀ dst pos after guard, (execOp ρ ⟨dst, op, ty, pos, after, guard⟩).run P w = .ok (.value v) w') : Ef P L w op ty Φ := by intro a N ha dst pos after guard K Q hK;obtain ⟨v, w', hΦ, hr⟩ := h a.eval (fun _ _ hx => ha.ev hx);unfold Oper.wp;rw [hr];exact hK v w' hΦ
theorem Ef.P9 {Φ : World → Prop} (h : ∀ ρ : Operand → Value, (∀ x u, ev L x = some u → ρ x = u) → ∃ w', Φ w' ∧ ∀ dst pos after guard, (execOp ρ ⟨dst, op, ty, pos, after, guard⟩).run P w = .ok .skip w') : Ef P L w op ty fun v w' => v = undef ∧ Φ w' := by intro a N ha dst pos after guard K Q hK;obtain ⟨w', hΦ, hr⟩ := h a.eval (fun _ _ hx => ha.ev hx);unfold Oper.wp;rw [hr];exact hK _ w' ⟨rfl, hΦ⟩
/-! New blocks. -/
def LG (w : World) (t : TypeId) (cs : Array Value) (v : Value) (w' : World) : Prop := ∃ g, v = .pointer (some ⟨g, 0, none⟩) ∧ ao w' g t cs ∧ w.heap.size ≤ g ∧ Ext w w'
theorem nA (hx : ev L x = some v) (hc : v.cells = cs) : Ef P L w (.box t x) ty (LG w t cs) := Ef.run fun ρ hρ =>
 ⟨_, w.alloc (.cells cs t), ⟨w.heap.size, rfl, ao.new w t cs, Nat.le_refl _, Ext.alloc w _⟩, fun _ _ _ _ => by subst hc; simp [execOp, hρ _ _ hx, Instr.box, newVar, newRow]⟩
theorem dJ (hz : (P.info? t).map (fun i => i.zero.map (·.cells)) = some (some Z)) : Ef P L w (.alloc t) ty (LG w t Z) := Ef.run fun ρ hρ => by
  cases hi : P.info? t with
  | none => simp [hi] at hz
  | some i =>
    cases hzz : i.zero with
    | none => grind
    | some z =>
      simp only [hi, hzz, Option.map_some, Option.some.injEq] at hz
      subst hz
      exact ⟨_, w.alloc (.cells z.cells t), ⟨w.heap.size, rfl, ao.new w t _, Nat.le_refl _, Ext.alloc w _⟩, fun _ _ _ _ => by simp [execOp, Instr.alloc, zeroValue, typeInfo, hi, hzz, newVar, newRow]⟩
def Q9 (L : List (Nat × Value)) : Nat → List (Nat × Operand) → Option (List Value)
  | _, [] => some []
  | i, p :: ps => cond (Nat.beq p.1 i) (match ev L p.2, Q9 L (i + 1) ps with
    | some v, some vs => some (v :: vs)
    | _, _ => none) none
theorem mz (h : v.oneCell' = true) : v.cells = #[v] := by cases v <;> first | rfl | (simp [Value.oneCell'] at h)
theorem uL (ρ : Operand → Value) (hρ : ∀ x u, ev L x = some u → ρ x = u) : ∀ (ps : List (Nat × Operand)) (i : Nat) (vs pre post : List Value), Q9 L i ps = some vs → (∀ v ∈ vs, v.oneCell' = true) → pre.length = i → post.length = vs.length →
    Instr.fill (fun i => some (i * 1, 1)) (pre ++ post).toArray (ps.map fun p => (p.1, ρ p.2)) = some (pre ++ vs).toArray
  | [], i, vs, pre, post, h, _, _, hl => by simp only [Q9, Option.some.injEq] at h;subst h;have : post = [] := List.eq_nil_of_length_eq_zero hl;subst this;rfl
  | p :: ps, i, vs, pre, post, h, h1, hp, hl => by
    unfold Q9 at h
    cases e : Nat.beq p.1 i with
    | false => simp [e] at h
    | true =>
      have hpi : p.1 = i := Nat.eq_of_beq_eq_true e
      simp only [e, cond_true] at h
      split at h
      · rename_i v us hv hus
        injection h with h
        subst h
        match post, hl with
        | q :: post, hl =>
          have hv1 := mz (h1 v (by simp))
          have ih := uL ρ hρ ps (i + 1) us (pre ++ [v]) post hus (fun u hu => h1 u (by simp [hu])) (by simp [hp]) (by simpa using hl)
          have hset : (pre ++ q :: post).toArray.setIfInBounds i v = (pre ++ [v] ++ post).toArray := by apply Array.ext';simp [← hp]
          rw [List.map_cons, hρ _ _ hv, hpi]
          unfold Instr.fill
          simp only [hv1, Nat.mul_one]
          rw [if_neg (by simp [← hp])]
          simp only [List.append_assoc, List.cons_append, List.nil_append] at hset ih ⊢
          have hfold : (#[v] : Array Value).zipIdx.foldl (fun cs (c, j) => cs.setIfInBounds (i + j) c) (pre ++ q :: post).toArray = (pre ++ v :: post).toArray := by simpa [Array.zipIdx] using hset
          rw [hfold]
          simpa using ih
      cases h
def Ou (w : World) (e : TypeId) (n : Nat) (vs : List Value) (v : Value) (w' : World) : Prop := ∃ g, v = .slice (some ⟨g, 0, none⟩) n n ∧ ao w' g e vs.toArray ∧ w.heap.size ≤ g ∧ Ext w w'
theorem N9 {z : Value} (hu : P.underlying t = some (.slice e)) (hi : (P.info? e).map (fun i => (i.zero, i.size)) = some (some z, 1)) (hz : z.cells.size = 1) (hp : Q9 L 0 ps.toList = some vs) (h1 : vs.all (·.oneCell') = true) (hn : vs.length = n) (hb' : Nat.ble n 100 = true)
    (ρ : Operand → Value) (hρ : ∀ x u, ev L x = some u → ρ x = u) (dst : Option Tmp) (pos : String) (after : Array Edge) (guard : Option (Nat × Bool)) :
    (execOp ρ ⟨dst, .buildSlice t n ps, ty, pos, after, guard⟩).run P w = .ok (.value (.slice (some ⟨w.heap.size, 0, none⟩) n n)) (w.alloc (.cells vs.toArray e)) := by
  have hb : n ≤ 16777216 := Nat.le_trans (Nat.le_of_ble_eq_true hb') Om;clear hb'
  cases hq : P.info? e with
  | none => simp [hq] at hi
  | some i =>
    simp only [hq, Option.map_some, Option.some.injEq, Prod.mk.injEq] at hi
    obtain ⟨z0, hz0⟩ : ∃ z0, z.cells[0]! = z0 := ⟨_, rfl⟩
    have hf := uL ρ hρ ps.toList 0 vs [] (List.replicate n z0) hp (by simpa using h1) rfl (by simp [hn])
    simp only [List.nil_append, Nat.mul_one, List.toArray_replicate] at hf
    subst hn
    by_cases h0 : vs.length = 0
    · have hr : ∀ Z : Array Value, (Array.range vs.length).map (fun k => Z[k % Z.size]!) = Array.replicate vs.length z0 := fun Z => by simp [h0, Array.range_zero']
      simp only [h0, Array.replicate_zero] at hf
      simp [execOp, Instr.buildSlice, run_underlying hu, sizeOf, typeInfo, hq, hi.2, h0, newRow, Array.range_zero', hf]
    have hr : (Array.range vs.length).map (fun k => z.cells[k % z.cells.size]!) = Array.replicate vs.length z0 := by grind
    have hb' : ¬ 16777216 < vs.length := by omega
    simp [execOp, Instr.buildSlice, run_underlying hu, sizeOf, typeInfo, hq, hi.1, hi.2, h0, hb', zeroValue, newRow, hr, hf]
theorem aF {z : Value} (hu : P.underlying t = some (.slice e)) (hi : (P.info? e).map (fun i => (i.zero, i.size)) = some (some z, 1)) (hz : z.cells.size = 1) (hp : Q9 L 0 ps.toList = some vs) (h1 : vs.all (·.oneCell') = true) (hn : vs.length = n) (hb' : Nat.ble n 100 = true) :
  Ef P L w (.buildSlice t n ps) ty (Ou w e n vs) := Ef.run fun ρ hρ =>
 ⟨_, w.alloc (.cells vs.toArray e), ⟨w.heap.size, rfl, ao.new w e _, Nat.le_refl _, Ext.alloc w _⟩, N9 hu hi hz hp h1 hn hb' ρ hρ⟩
theorem dD {a b : Int} {z : Value} {bytes : Nat} (hx : ev L x = some (.int k a)) (hy : ev L y = some (.int k' b)) (hu : P.underlying t = some (.slice e)) (hi : (P.info? e).map (fun i => (i.zero, i.size, i.bytes)) = some (some z, sz, bytes)) (hs : sz = 1) (hz : z.oneCell' = true)
    (ha : a = (n : Int)) (hb : b = (n : Int)) (hbytes : (bytes : Int) * n ≤ 281474976710656) (h63 : (n : Int) ≤ 9223372036854775807) : Ef P L w (.makeSlice t x y) ty (Ou w e n (List.replicate n z)) := Ef.run fun ρ hρ => by
  subst ha; subst hb; subst hs;refine ⟨_, w.alloc (.cells (List.replicate n z).toArray e), ⟨w.heap.size, rfl, ao.new w e _, Nat.le_refl _, Ext.alloc w _⟩, fun _ _ _ _ => ?_⟩
  cases hq : P.info? e with
  | none => simp [hq] at hi
  | some i =>
    simp only [hq, Option.map_some, Option.some.injEq, Prod.mk.injEq] at hi
    have hr := run_make (P := P) w t e i z hu hq hi.1 k k' n n Om Om (by grind) h63
    have hc : madeCells z.cells (n * 1) = (List.replicate n z).toArray := by apply Array.ext';have h1 := mz hz;unfold madeCells;rw [h1];simp [Nat.mod_one, List.map_const']
    simp only [Int.toNat_natCast, hi.2.1, hc] at hr
    simp [execOp, hρ _ _ hx, hρ _ _ hy, hr]
end
section
variable {xs : List Operand} {R : Ending → World → Prop} {c : Code}
theorem aC (hf : P.funcs[f]? = some fn) (hx : qe L xs = some vs) (h : Calls P f vs.toArray w R) (hr : ∀ e w', R e w' → ∃ v, e = .returned v ∧ WL P ops Q rest N (cG dst v L) w')
 (hb : fn.body = some c := by exact rfl) (hn : (fn.name == "runtime.NumGoroutine") = false := by exact rfl) (hd : jO N dst = true := by exact rfl) : WL P ops Q (⟨dst, .call { callee := .value (.func f), args := xs.toArray, argTypes := ats }, ty, pos, after, none⟩ :: rest) N L w := L9 hf hb hn hx h hd hr
theorem bz (i : Nat) (hi : ops[i]? = some ⟨dst, .call { callee := .value (.func f), args := xs.toArray, argTypes := ats }, ty, pos, after, none⟩) (hf : P.funcs[f]? = some fn) (hx : qe L xs = some vs) (h : Calls P f vs.toArray w R)
 (hr : ∀ e w', R e w' → ∃ v, e = .returned v ∧ (turns ops i = true ∨ Ext w w') ∧ WM P ops Q n (listed.setIfInBounds i true) N (cG dst v L) w')
 (ho : Region.ready .any ops listed = [i] := by kernel_rfl) (hb : fn.body = some c := by exact rfl) (hn : (fn.name == "runtime.NumGoroutine") = false := by exact rfl) (hd : jO N dst = true := by exact rfl) : WM P ops Q (n + 1) listed N L w := aL i ho (eW hi hf hb hn hx h hd hr)
end
theorem Lv {a b : Option Value} (h : a = b := by first | rfl | exact congrArg some (wW (by omega))) : a = b := h
theorem Ls {p : Prop} (h : p := by repeat (first | exact trivial | refine ⟨by first | rfl | exact congrArg some (wW (by omega)), ?_⟩)) : p := h
section
open Go.RowKit
def lF (w : World) (g : Nat) (w' : World) : Prop := w.grownBy w' (some g)
section
theorem Ext.aA (h : Ext w0 w) (k : lF w g w') (hg : w0.heap.size ≤ g) : Ext w0 w' :=
 ⟨k.os.trans h.os, k.tape.trans h.tape, k.output.trans h.output, Nat.le_trans h.size k.size, fun i hi => (k.block i (Nat.lt_of_lt_of_le hi h.size) (by grind)).trans (h.block i hi)⟩
theorem _root_.Go.RowKit.Below.aA (h : Ext w0 w) (k : lF w g w') (hg : w0.heap.size ≤ g) : Ext w0 w' := Ext.aA h k hg
theorem ao.aA (h : ao w b t cs) (k : lF w g w') (hne : b ≠ g) : ao w' b t cs := h.grown k (by grind)
theorem Bs.aA {xs : Lb} (h : Bs w A n xs) (k : lF w g w') (hne : ∀ b off, A = some ⟨b, off, none⟩ → b ≠ g) : Bs w' A n xs := h.grown k hne
theorem lF.LO (h : Ext w w') (g : Nat) : lF w g w' := qD h (Nat.le_refl _) _
theorem lF.tr (h : lF w g w') (k : lF w' g w'') : lF w g w'' :=
 ⟨k.os.trans h.os, k.tape.trans h.tape, k.output.trans h.output, Nat.le_trans h.size k.size, fun i hi hne => (k.block i (Nat.lt_of_lt_of_le hi h.size) hne).trans (h.block i hi hne)⟩
theorem zK (w : World) (g i : Nat) (v : Value) : lF w g (w.setCell ⟨g, i, none⟩ v) := uH (World.grownBy.refl w _) (.inl rfl) v
theorem nO (w : World) (g : Nat) (cs : Array Value) : lF w g (w.setRow g cs) :=
 ⟨rfl, rfl, rfl, by simp_all, fun i _ hne => setRow_other w g i cs (by grind)⟩
theorem Bs.wk {xs : Lb} (h : Bs w0 A n xs) (E : Ext w0 w) : Bs w A n xs := h.below E
theorem ao.get (h : ao w b t cs) (hv : cs[i]? = some v) : w.cell? ⟨b, i, none⟩ = some v := by rw [h.cell]; exact hv
theorem Row.get (h : Row w base e A n c xs) (hi : i < n) : ∃ g v, A = some ⟨g, 0, none⟩ ∧ xs[i]? = some v ∧ w.cell? ⟨g, 0 + i, none⟩ = some v ∧ base ≤ g ∧ g < w.heap.size ∧ w.frozen? ⟨g, 0 + i, none⟩ = false := by
 have hl := h.len;obtain ⟨g, cap, hv, h1, h2⟩ := World.ownsRow.form h Om;injection hv with hv _ _
 subst hv;have hx : xs[i]? = some xs[i] := List.getElem?_eq_getElem Om;refine ⟨g, xs[i], rfl, hx, ?_, h1, h2, World.ownsRow.frozenAt h (0 + i)⟩;obtain ⟨b, off, hA, _, hc⟩ := (Row.at h).get (k := i) Om;injection hA with hA
 injection hA with hb ho _
 subst hb; subst ho;exact hc
theorem Row.lt (h : Row w base e (some ⟨g, off, none⟩) n c xs) : base ≤ g ∧ g < w.heap.size := World.ownsRow.lt h g rfl
theorem Row.aA {k : Nat} (h : Row w base e A n c xs) (cg : lF w k w') (hne : ∀ b off, A = some ⟨b, off, none⟩ → b ≠ k) : Row w' base e A n c xs := by
 refine World.ownsRow.kept (row := some k) h cg ?_
 rcases h.2 with ⟨hv, _⟩ | ⟨g, cap, cur, hv, _⟩
 ·injection hv with hA _ _; subst hA; exact .inl rfl
 injection hv with hA _ _
 subst hA;exact .inr (by intro e; injection e with e; grind)
theorem Row.cap (h : Row w base e A n c xs) : n ≤ c := CT h
end
section
theorem BH {old : Value} (h1 : v.oneCell' = true) (hs : (P.info? t).map (·.size) = some 1) (hc : w.cell? ad = some old) (hf : w.frozen? ad = false) : (Instr.storeAt t (.pointer (some ad)) v).run P w = .ok () (w.setCell ad v) := by
 have h0 : ad.add 0 = ad := by simp [Addr.add]
 have hst := run_store P w ad v .plain h1;rw [hc] at hst;simp only [hf] at hst;simp [Instr.storeAt, Instr.sureAddr, storeVar, bJ hs, mz h1, storeCells, h0, hst]
theorem va {old : Value} (hx : ev L x = some (.pointer (some ad))) (hy : ev L y = some v) (h1 : v.oneCell' = true) (hs : (P.info? t).map (·.size) = some 1) (hc : w.cell? ad = some old) (hf : w.frozen? ad = false) :
  Ef P L w (.store t x y) ty fun u w' => u = undef ∧ w' = w.setCell ad v := Ef.P9 fun ρ hρ => ⟨_, rfl, fun _ _ _ _ => by simp [execOp, hρ _ _ hx, hρ _ _ hy, BH h1 hs hc hf]⟩
theorem aq (hx : ev L x = some (.pointer (some ⟨g, i, none⟩))) (hy : ev L y = some v) (h1 : v.oneCell' = true) (hs : (P.info? t).map (·.size) = some 1) (hg : ao w g e cs) (hi : i < cs.size) :
  Ef P L w (.store t x y) ty fun u w' => u = undef ∧ ao w' g e (cs.setIfInBounds i v) ∧ lF w g w' :=
 (va hx hy h1 hs (hg.get (Array.getElem?_eq_getElem hi)) (hg.frozen i)).mono fun _ w' ⟨hu, hw⟩ => ⟨hu, by subst hw; exact hg.set i v, by subst hw; exact zK w g i v⟩
theorem mP (hx : ev L x = some (.pointer (some ⟨g, 0 + i, none⟩))) (hy : ev L y = some v) (h1 : v.oneCell' = true) (hs : (P.info? t).map (·.size) = some 1) (hg : Row w base e (some ⟨g, 0, none⟩) n c xs) (hi : i < n) :
  Ef P L w (.store t x y) ty fun u w' => u = undef ∧ Row w' base e (some ⟨g, 0, none⟩) n c (xs.set i v) ∧ lF w g w' := by
 obtain ⟨g', v', hA, _, hc, _, _, hf⟩ := hg.get hi;injection hA with hA
 injection hA with hA _ _
 subst hA;refine (va hx hy h1 hs hc hf).mono fun _ w' ⟨hu, hw⟩ => ?_;subst hw;rw [Nat.zero_add];obtain ⟨r1, r2⟩ := World.ownsRow.stored hg i v;exact ⟨hu, r1, r2⟩
theorem ah (hx : ev L x = some (.pointer (some ⟨g, 0, none⟩))) (hy : ev L y = some (.agg cells)) (hs : (P.info? t).map (·.size) = some cells.size) (hg : ao w g e old) (ho : old.size = cells.size) (h1 : cells.all (·.oneCell') = true) :
  Ef P L w (.store t x y) ty fun u w' => u = undef ∧ ao w' g e cells ∧ lF w g w' := by
 have hr := run_storeVar_row (P := P) w g e t old cells hg hs ho h1;exact (Ef.P9 (Φ := fun w' => w' = w.setRow g cells) fun ρ hρ => ⟨_, rfl, fun _ _ _ _ => by simp [execOp, hρ _ _ hx, hρ _ _ hy, Instr.storeAt, Instr.sureAddr, hr]⟩).mono fun _ w' ⟨hu, hw⟩ => ⟨hu, by subst hw; exact hg.row _, by subst hw; exact nO w g cells⟩
theorem gY {dLen dCap : Nat} {cs : List Value} (hx : ev L x = some (.slice (some ⟨g, o, none⟩) dLen dCap)) (hy : ev L y = some (.slice A m c)) (hu : P.underlying dT = some (.slice e)) (hs : (P.info? e).map (·.size) = some 1)
  (hg : ao w g tb cur) (hr : At w A cs) (hn : cs.length = Nat.min m dLen) (hfit : o + cs.length ≤ cur.size) (h1 : ∀ v ∈ cs, v.oneCell' = true) :
  Ef P L w (.call { callee := .builtin .copy, args := #[x, y], argTypes := #[dT, sT] }) ty fun u w' => u = .int .i64 (cs.length : Int) ∧ ao w' g tb (cur.toList.take o ++ cs ++ cur.toList.drop (o + cs.length)).toArray ∧ lF w g w' := by
 have hrun := nZ (P := P) w dT sT ty e g o dLen dCap A m c cur tb cs hu hs hg hr hn hfit h1;refine (Ef.run (Φ := fun u w' => u = .int .i64 (cs.length : Int) ∧ w' = w.setRow g (cur.toList.take o ++ cs ++ cur.toList.drop (o + cs.length)).toArray) fun ρ hρ => ⟨_, _, ⟨rfl, rfl⟩, fun _ _ _ _ => by simp [execOp, resolve, invoke, builtin, hρ _ _ hx, hρ _ _ hy, hrun]⟩).mono fun _ w' ⟨hu, hw⟩ => ⟨hu, by subst hw; exact hg.row _, by subst hw; exact nO w g _⟩
def T9 (w : World) (base : Nat) (e : TypeId) (A : Oa) (n c : Nat) (xs : List Value) (v : Value) (w' : World) : Prop :=
 ∃ A' c', v = .slice A' n c' ∧ Row w' base e A' n c' xs ∧ Below base w w' ∧ w.grownBy w' (Value.slice A n c).ownBlock ∧ ((Value.slice A' n c').ownBlock = (Value.slice A n c).ownBlock ∨ (Value.slice A' n c').ownBlock = some w.heap.size)
theorem aX {bytes : Nat} (hx : ev L x = some (.slice A n c)) (hy : ev L y = some (.slice B m c2)) (hE : Ap P t e bytes) (hown : Row w base e A n c xs) (hr : At w B ys) (hl : ys.length = m) (h1 : ∀ u ∈ ys, u.oneCell' = true)
  (hlen : (n + m) * bytes ≤ 140737488355328) (h63 : n + m ≤ 140737488355328) (hbase : base ≤ w.heap.size) : Ef P L w (.call { callee := .builtin .append, args := #[x, y], argTypes := #[t, t] }) ty (T9 w base e A (n + m) c (xs ++ ys)) := Ef.run fun ρ hρ => by
 obtain ⟨v', w', hrun, h2, h3, h4, h5⟩ := sQ (P := P) (w0 := w) base t ty e bytes hE (.slice A n c) n xs hown B m c2 ys hl hr h1 hlen h63 (Below.refl _ _) hbase;obtain ⟨A', c', rfl⟩ := qn h2;refine ⟨_, w', ⟨A', c', rfl, h2, h3, ?_, ?_⟩, fun _ _ _ _ => by simp [execOp, resolve, invoke, builtin, hρ _ _ hx, hρ _ _ hy, hrun]⟩
 ·have : (Value.slice A n c).ownBlock = (Value.slice A (n + m) c).ownBlock := by cases A <;> rfl
  grind
 have : (Value.slice A n c).ownBlock = (Value.slice A (n + m) c).ownBlock := by cases A <;> rfl
 grind
end
theorem mD {xs : Lb} (B : ao w g t ([.slice A n c] : List Value).toArray) (h : Bs w A n xs) : rO w (some ⟨g, 0, none⟩) 1 [xs] :=
 ⟨rfl, [.slice A n c], rfl, B.at 0 _ (fun j u hu => by grind), fun i hi => by
  grind⟩
theorem ph {xs xs' : Lb} (B : ao w g t ([.slice A n c, .slice A' n' c'] : List Value).toArray) (h : Bs w A n xs) (h' : Bs w A' n' xs') : rO w (some ⟨g, 0, none⟩) 2 [xs, xs'] :=
 ⟨rfl, [.slice A n c, .slice A' n' c'], rfl, B.at 0 _ (fun j u hu => by grind), fun i hi => by
  grind⟩
theorem mL {A2 : Oa} {n2 : Nat} {xs xs' xs2 : Lb} (B : ao w g t ([.slice A n c, .slice A' n' c', .slice A2 n2 c2] : List Value).toArray) (h : Bs w A n xs) (h' : Bs w A' n' xs') (h2 : Bs w A2 n2 xs2) : rO w (some ⟨g, 0, none⟩) 3 [xs, xs', xs2] :=
 ⟨rfl, [.slice A n c, .slice A' n' c', .slice A2 n2 c2], rfl, B.at 0 _ (fun j u hu => by grind), fun i hi => by
  grind⟩
theorem bh {xs : Lb} (h : ao w g t (dd xs)) (hn : xs.length = n) : Bs w (some ⟨g, 0, none⟩) n xs :=
 ⟨hn, h.at 0 _ (fun j u hu => by rw [Nat.zero_add]; simpa [dd] using hu)⟩
theorem Bs.nil (w : World) (A : Oa) : Bs w A 0 [] := ⟨rfl, .inl rfl⟩
theorem ao.congr (h : ao w g t cs) (e : cs = cs') : ao w g t cs' := e ▸ h
section
theorem iF {bytes : Nat} (hx : ev L x = some (.slice A 0 c)) (hy : ev L y = some (.slice B m c2)) (hE : Ap P t e bytes) (hown : Row w base e A 0 c []) (hr : At w B ys) (hl : ys.length = m) (h1 : ∀ u ∈ ys, u.oneCell' = true)
  (hlen : m * bytes ≤ 140737488355328) (h63 : m ≤ 140737488355328) (hbase : base ≤ w.heap.size) : Ef P L w (.call { callee := .builtin .append, args := #[x, y], argTypes := #[t, t] }) ty (T9 w base e A m c ys) := by
 have h := aX (P := P) (ty := ty) hx hy hE hown hr hl h1 (by grind) Om hbase;grind
end
def Dj (A B : Oa) : Prop := ∀ b o b' o', A = some ⟨b, o, none⟩ → B = some ⟨b', o', none⟩ → b ≠ b'
theorem Dj.Js (B : Oa) : Dj none B := fun _ _ _ _ h => by cases h
theorem Dj.symm (h : Dj A B) : Dj B A := fun b o b' o' h1 h2 e => h b' o' b o h2 h1 e.symm
theorem Row.app {d : Nat} (h : Row w base2 e2 B m d ys) (hd : Dj A B) (hg : w.grownBy w' (Value.slice A n c).ownBlock)
    (hl : (Value.slice A' n' c').ownBlock = (Value.slice A n c).ownBlock ∨ (Value.slice A' n' c').ownBlock = some w.heap.size) (hA : ∀ b o s, A = some ⟨b, o, s⟩ → s = none) : Row w' base2 e2 B m d ys ∧ Dj A' B := by
  constructor
  · refine World.ownsRow.kept (row := (Value.slice A n c).ownBlock) h hg ?_
    rcases h.2 with ⟨hv, _⟩ | ⟨g, cap, cur, hv, _⟩
    · injection hv with hB _ _; subst hB; exact .inl rfl
    injection hv with hB _ _
    subst hB
    cases A with
    | none => exact .inr (by simp [Value.ownBlock])
    | some a =>
      obtain ⟨b, o, s⟩ := a
      have := hA b o s rfl
      subst this
      exact .inr (by simp only [Value.ownBlock]; intro e; injection e with e; exact hd b o g 0 rfl rfl e.symm)
  intro b o b' o' h1 h2 hbb;subst h1; subst h2; subst hbb;have hlt : b < w.heap.size := (Row.lt h).2;rcases hl with hl | hl
  · cases A with
    | none => simp [Value.ownBlock] at hl
    | some a =>
      obtain ⟨b2, o2, s⟩ := a
      have := hA b2 o2 s rfl
      subst this
      simp only [Value.ownBlock, Option.some.injEq] at hl
      exact hd b2 o2 b o' rfl rfl hl.symm
  simp only [Value.ownBlock, Option.some.injEq] at hl;omega
theorem Row.gG (h : Row w base e A n c xs) (b o : Nat) (s) (hA : A = some ⟨b, o, s⟩) : s = none := by
 rcases h.2 with ⟨hv, _⟩ | ⟨g, cap, cur, hv, _⟩
 ·grind
 grind
theorem Row.bs {xs : Lb} (h : Row w base e A n c (xs.map bv)) : Bs w A n xs := ⟨by have := h.len; grind, Row.at h⟩
theorem Row.nw (h : Row w base e A n c xs) : Nw base w A := fun b o e => by
 subst e;refine ⟨(Row.lt h).1, ?_⟩
 rcases h.2 with ⟨hv, _⟩ | ⟨g, cap, cur, hv, _, hb, _⟩
 ·cases hv
 grind
theorem Nw.of (B : ao w g t cs) (h : base ≤ g) : Nw base w (some ⟨g, 0, none⟩) := fun b o e => by
 injection e with e
 injection e with e1 _ _
 subst e1;exact ⟨h, _, _, B⟩
theorem Row.bn {xs : Lb} (h : Row w base e A n c (xs.map bv)) : Bn base w A n xs := ⟨Row.bs h, Row.nw h⟩
theorem Bs.RR {xs : Lb} (h : Bs w (some ⟨g, o, none⟩) n xs) (hn : 0 < n) : g < w.heap.size := by obtain ⟨b', o', e', hb', _⟩ := h.get hn;grind
theorem Row.cat {xs ys : Lb} (h : Row w base e A n c (xs.map bv ++ ys.map bv)) : Row w base e A n c ((xs ++ ys).map bv) := by grind
theorem At.jn (B : ao w g t vs.toArray) : At w (some ⟨g, 0, none⟩) vs := B.at 0 _ (fun j u hu => by grind)
theorem Row.congr (h : Row w base e A n c xs) (hn : n = n') (hx : xs = ys) : Row w base e A n' c ys := by grind
theorem dM {p : Prop} [Decidable p] [Decidable q] (h : p ↔ q) : Ending.returned (.bool (decide p)) = .returned (.bool (decide q)) := by rw [decide_eq_decide.2 h]
theorem rf {b : Bool} [Decidable q] (h : b = true ↔ q) : Ending.returned (.bool b) = .returned (.bool (decide q)) := by grind
section
theorem fY {c rest : Code} (l : Nat) (J : Nat → List (Nat × Value) → World → Prop) (hf : findLabel c l = some (Code.skip.seq rest))
    (pass : ∀ (G : Act → World → Prop) (n : Nat) (L : List (Nat × Value)) (w : World), J n L w → (∀ {L1 : List (Nat × Value)} {w' : World} (n' : Nat) (L' : List (Nat × Value)), J n' L' w' → n' < n → mY L1 L' → WK G N L1 w') → WC P (Exit.jump l G Q) rest N L w)
    (first : ∀ (G : Act → World → Prop), (∀ {L1 : List (Nat × Value)} {w' : World} (n' : Nat) (L' : List (Nat × Value)), J n' L' w' → mY L1 L' → WC P (Exit.jump l G Q) rest N L1 w') → WC P (Exit.jump l G Q) c N L w) :
    WC P Q (.scope c) N L w := by
  intro a ha;refine wp_scope_jumps l (fun a w => ∃ n L, Fr N L a ∧ J n L w) (fun a w => leastOf fun n => ∃ L, Fr N L a ∧ J n L w) hf ?_ ?_
  · exact first _ (fun n' L' hJ hin a' ha' => pass (fun a' w' => ∃ n1 L1, Fr N L1 a' ∧ J n1 L1 w') n' L' _ hJ (fun n1 L1 hJ1 _ hin1 a1 ha1 => ⟨n1, L1, ha1.sub hin1, hJ1⟩) a' (ha'.sub hin)) a ha
  rintro a w ⟨n0, L0, h0⟩;obtain ⟨⟨L, ha, hJ⟩, hmin⟩ := leastOf_spec (p := fun n => ∃ L, Fr N L a ∧ J n L w) ⟨n0, L0, h0⟩;refine wp_seq (wp_skip ?_);refine wp_mono (pass (fun a' w' => ∃ n', n' < leastOf (fun n => ∃ L, Fr N L a ∧ J n L w) ∧ ∃ L', Fr N L' a' ∧ J n' L' w') _ L w hJ (fun n' L' hJ' hn hin a' ha' => ⟨n', hn, L', ha'.sub hin, hJ'⟩) a ha) ?_;intro e a' w' hq
  cases e with
  | goto l' =>
    obtain ⟨e1, n', hlt, L', ha', hJ'⟩ := hq
    have hs := leastOf_spec (p := fun n => ∃ L, Fr N L a' ∧ J n L w') ⟨n', L', ha', hJ'⟩
    exact ⟨e1, ⟨n', L', ha', hJ'⟩, Nat.lt_of_le_of_lt (hs.2 n' ⟨L', ha', hJ'⟩) hlt⟩
  | normal => exact hq
  | exit id => exact hq
  | ret => exact hq
  | panic ch => exact hq
  | outgrown => exact hq
end
section
theorem tJ {s u : ByteArray} (hx : ev L x = some (.string s)) (hy : ev L y = some (.string u)) (hl : ((s.size : Int) + u.size ≤ 9223372036854775807)) : Y P L w (.binOp .add t x y t') ty (.string (s ++ u)) := fun ρ hρ w' _ _ _ _ _ => by simp [execOp, hρ _ _ hx, hρ _ _ hy, eqGuard, binOp, Op.stringOp, hl]
theorem pJ {s : ByteArray} (hx : ev L x = some (.string s)) (hs : P.underlying t = some d) (hu : P.underlying t' = some (.slice e)) (he : P.underlying e = some (.int .u8)) :
  Ef P L w (.convert t t' x) ty fun v w' => ∃ g c, v = .slice (some ⟨g, 0, none⟩) s.size c ∧ Bs w' (some ⟨g, 0, none⟩) s.size s.data.toList ∧ w.heap.size ≤ g ∧ Ext w w' := Ef.run fun ρ hρ => by
 refine ⟨_, Lib.bytesWorld w e s, ⟨w.heap.size, grownCap w s.size 0 e, rfl, ⟨rfl, .inr ⟨w.heap.size, 0, rfl, fun j u hu' => ?_⟩⟩, Nat.le_refl _, ?_⟩, fun _ _ _ _ => by simp [execOp, hρ _ _ hx, Lib.run_convert_string_bytes (P := P) w t t' e s hs hu he]⟩
 ·rw [List.getElem?_map] at hu'
  have hj : j < s.size := by
   rcases Nat.lt_or_ge j s.size with h | h
   ·exact h
   simp_all
  rw [Nat.zero_add, Lib.bytesWorld_cell w e s j hj, ← hu'];have hj' : j < s.data.toList.length := by simpa using hj
  rw [List.getElem?_eq_getElem hj', List.getD_eq_getElem?_getD, List.getElem?_eq_getElem hj'];rfl
 exact ⟨rfl, rfl, rfl, by rw [Lib.bytesWorld_size]; omega, fun k hk => Lib.bytesWorld_at_old w e s k hk⟩
end
theorem Bs.app {ys : Lb} (h : Bs w B m ys) (hd : Dj A B) (hg : w.grownBy w' (Value.slice A n c).ownBlock) (hA : ∀ b o s, A = some ⟨b, o, s⟩ → s = none) : Bs w' B m ys := by
  cases A with
  | none =>
    refine ⟨h.1, ?_⟩
    rcases h.2 with h0 | ⟨b, off, hB, hc⟩
    · exact .inl h0
    exact .inr ⟨b, off, hB, fun j u hu => by
      have h1 := hc j u hu;rw [World.cell?_of_block (w := w) (hg.block b (dX h1) (by simp [Value.ownBlock]))]
      exact h1⟩
  | some a =>
    obtain ⟨b, o, s⟩ := a
    have := hA b o s rfl
    subst this
    exact h.grown hg (fun b' off hB e => hd b o b' off rfl hB e.symm)
end
namespace Sha
def cQ (x n : Nat) : Nat := x / 2 ^ n + x % 2 ^ n * 2 ^ (32 - n)
def s0 (x : Nat) : Nat := (cQ x 7 ^^^ cQ x 18) ^^^ (x / 8)
def s1 (x : Nat) : Nat := (cQ x 17 ^^^ cQ x 19) ^^^ (x / 1024)
def S0 (x : Nat) : Nat := (cQ x 2 ^^^ cQ x 13) ^^^ cQ x 22
def S1 (x : Nat) : Nat := (cQ x 6 ^^^ cQ x 11) ^^^ cQ x 25
def ch (e f g : Nat) : Nat := (e &&& f) ^^^ ((4294967295 - e) &&& g)
def Gi (a b c : Nat) : Nat := ((a &&& b) ^^^ (a &&& c)) ^^^ (b &&& c)
def RQ (l : List UInt8) (t : Nat) : Nat := (l.getD (4 * t) 0).toNat * 16777216 + (l.getD (4 * t + 1) 0).toNat * 65536 + (l.getD (4 * t + 2) 0).toNat * 256 + (l.getD (4 * t + 3) 0).toNat
def jr (l : List UInt8) : Nat → List Nat
 | 0 => []
 | k + 1 => jr l k ++ [RQ l k]
def jg (p : List Nat) (k : Nat) : Nat := (s1 (p.getD (k + 14) 0) + p.getD (k + 9) 0 + s0 (p.getD (k + 1) 0) + p.getD k 0) % 4294967296
def ext (m : List Nat) : Nat → List Nat
 | 0 => m
 | k + 1 => ext m k ++ [jg (ext m k) k]
def words (l : List UInt8) : List Nat := ext (jr l 16) 48
structure S8 where
 (a b c d e f g h : Nat)
def S8.list (s : S8) : List Nat := [s.a, s.b, s.c, s.d, s.e, s.f, s.g, s.h]
def S8.ok (s : S8) : Prop := s.a < 4294967296 ∧ s.b < 4294967296 ∧ s.c < 4294967296 ∧ s.d < 4294967296 ∧ s.e < 4294967296 ∧ s.f < 4294967296 ∧ s.g < 4294967296 ∧ s.h < 4294967296
def K : List Nat := [
 0x428a2f98, 0x71374491, 0xb5c0fbcf, 0xe9b5dba5, 0x3956c25b, 0x59f111f1, 0x923f82a4, 0xab1c5ed5,
 0xd807aa98, 0x12835b01, 0x243185be, 0x550c7dc3, 0x72be5d74, 0x80deb1fe, 0x9bdc06a7, 0xc19bf174,
 0xe49b69c1, 0xefbe4786, 0x0fc19dc6, 0x240ca1cc, 0x2de92c6f, 0x4a7484aa, 0x5cb0a9dc, 0x76f988da,
 0x983e5152, 0xa831c66d, 0xb00327c8, 0xbf597fc7, 0xc6e00bf3, 0xd5a79147, 0x06ca6351, 0x14292967,
 0x27b70a85, 0x2e1b2138, 0x4d2c6dfc, 0x53380d13, 0x650a7354, 0x766a0abb, 0x81c2c92e, 0x92722c85,
 0xa2bfe8a1, 0xa81a664b, 0xc24b8b70, 0xc76c51a3, 0xd192e819, 0xd6990624, 0xf40e3585, 0x106aa070,
 0x19a4c116, 0x1e376c08, 0x2748774c, 0x34b0bcb5, 0x391c0cb3, 0x4ed8aa4a, 0x5b9cca4f, 0x682e6ff3,
 0x748f82ee, 0x78a5636f, 0x84c87814, 0x8cc70208, 0x90befffa, 0xa4506ceb, 0xbef9a3f7, 0xc67178f2]
def H0 : List Nat := [0x6a09e667, 0xbb67ae85, 0x3c6ef372, 0xa54ff53a, 0x510e527f, 0x9b05688c, 0x1f83d9ab, 0x5be0cd19]
def IV : S8 := ⟨0x6a09e667, 0xbb67ae85, 0x3c6ef372, 0xa54ff53a, 0x510e527f, 0x9b05688c, 0x1f83d9ab, 0x5be0cd19⟩
def T1 (s : S8) (k w : Nat) : Nat := s.h + S1 s.e + ch s.e s.f s.g + k + w
def T2 (s : S8) : Nat := S0 s.a + Gi s.a s.b s.c
def As (s : S8) (k w : Nat) : S8 :=
 ⟨(T1 s k w + T2 s) % 4294967296, s.a, s.b, s.c, (s.d + T1 s k w) % 4294967296, s.e, s.f, s.g⟩
def rounds (w : List Nat) (s : S8) : Nat → S8
 | 0 => s
 | t + 1 => As (rounds w s t) (K.getD t 0) (w.getD t 0)
def S8.add (s x : S8) : S8 := ⟨(s.a + x.a) % 4294967296, (s.b + x.b) % 4294967296, (s.c + x.c) % 4294967296, (s.d + x.d) % 4294967296,
 (s.e + x.e) % 4294967296, (s.f + x.f) % 4294967296, (s.g + x.g) % 4294967296, (s.h + x.h) % 4294967296⟩
def step (s : S8) (b : List UInt8) : S8 := s.add (rounds (words b) s 64)
def kT (n : Nat) : List UInt8 := [UInt8.ofNat (n / 72057594037927936), UInt8.ofNat (n / 281474976710656), UInt8.ofNat (n / 1099511627776), UInt8.ofNat (n / 4294967296),
 UInt8.ofNat (n / 16777216), UInt8.ofNat (n / 65536), UInt8.ofNat (n / 256), UInt8.ofNat n]
def cA (n : Nat) : Nat := (119 - n % 64) % 64
def pad (n : Nat) : List UInt8 := 128 :: (List.replicate (cA n) 0 ++ kT (n * 8))
def blocks (s : S8) (l : List UInt8) : Nat → S8
 | 0 => s
 | k + 1 => step (blocks s l k) ((l.drop (64 * k)).take 64)
def tZ (x : Nat) : List UInt8 := [UInt8.ofNat (x / 16777216), UInt8.ofNat (x / 65536), UInt8.ofNat (x / 256), UInt8.ofNat x]
def S8.bytes (s : S8) : List UInt8 := s.list.flatMap tZ
def sum (b : List UInt8) : List UInt8 := (blocks IV (b ++ pad b.length) ((b ++ pad b.length).length / 64)).bytes
theorem br {x : Nat} (hx : x < 4294967296) (hn : n ≤ 32) : cQ x n < 4294967296 := by
 unfold cQ
 have h1 : x / 2 ^ n < 2 ^ (32 - n) := by rw [Nat.div_lt_iff_lt_mul (Nat.two_pow_pos n), ← Nat.pow_add, Nat.sub_add_cancel hn]; exact hx
 have h2 : x % 2 ^ n < 2 ^ n := Nat.mod_lt _ (Nat.two_pow_pos n)
 have h3 : x % 2 ^ n * 2 ^ (32 - n) + 2 ^ (32 - n) ≤ 4294967296 := by have : (x % 2 ^ n + 1) * 2 ^ (32 - n) ≤ 2 ^ n * 2 ^ (32 - n) := Nat.mul_le_mul_right _ h2;rw [← Nat.pow_add, Nat.add_sub_cancel' hn, Nat.add_mul] at this;omega
 omega
theorem ix {x y : Nat} (hx : x < 4294967296) (hy : y < 4294967296) : x ^^^ y < 4294967296 := Nat.xor_lt_two_pow (n := 32) hx hy
theorem fE {x y : Nat} (hx : x < 4294967296) : x &&& y < 4294967296 := Nat.lt_of_le_of_lt Nat.and_le_left hx
theorem Sl {x : Nat} (hx : x < 4294967296) : S0 x < 4294967296 := ix (ix (br hx (by omega)) (br hx (by omega))) (br hx (by omega))
theorem SU {x : Nat} (hx : x < 4294967296) : S1 x < 4294967296 := ix (ix (br hx (by omega)) (br hx (by omega))) (br hx (by omega))
theorem Ta {e f : Nat} (he : e < 4294967296) : ch e f g < 4294967296 := ix (fE he) (fE (by omega))
theorem Rw {a : Nat} (ha : a < 4294967296) (hb : b < 4294967296) : Gi a b c < 4294967296 := ix (ix (fE ha) (fE ha)) (fE hb)
theorem xi {x : Nat} (hx : x < 4294967296) (hn : n ≤ 32) : (x * 2 ^ (32 - n) % 4294967296) ||| (x / 2 ^ n) = cQ x n := by
 have hp : (4294967296 : Nat) = 2 ^ n * 2 ^ (32 - n) := by rw [← Nat.pow_add, Nat.add_sub_cancel' hn]
 have h1 : x * 2 ^ (32 - n) % 4294967296 = x % 2 ^ n * 2 ^ (32 - n) := by rw [hp, Nat.mul_mod_mul_right]
 have h2 : x / 2 ^ n < 2 ^ (32 - n) := by rw [Nat.div_lt_iff_lt_mul (Nat.two_pow_pos n), ← Nat.pow_add, Nat.sub_add_cancel hn]; exact hx
 rw [h1, nat_join (32 - n) _ _ (by simp) h2];unfold cQ;omega
theorem Pl (l : List UInt8) (t : Nat) : RQ l t < 4294967296 := by unfold RQ;have h : ∀ x : UInt8, x.toNat < 256 := fun x => x.toNat_lt;grind
theorem fS (l : List UInt8) (k : Nat) : (jr l k).length = k := by induction k with
 | zero => rfl
 | succ k ih => simp [jr, ih]
theorem gS (m : List Nat) (k : Nat) : (ext m k).length = m.length + k := by induction k with
 | zero => rfl
 | succ k ih => simp [ext, ih]; omega
theorem cM (l : List UInt8) : (words l).length = 64 := by simp [words, gS, fS]
theorem sJ (l : List UInt8) (k : Nat) : ∀ x ∈ jr l k, x < 4294967296 := by induction k with
  | zero => simp [jr]
  | succ k ih =>
    intro x hx
    simp only [jr, List.mem_append, List.mem_singleton] at hx
    rcases hx with hx | rfl
    · exact ih x hx
    exact Pl l k
theorem tO (m : List Nat) (hm : ∀ x ∈ m, x < 4294967296) (k : Nat) : ∀ x ∈ ext m k, x < 4294967296 := by induction k with
  | zero => exact hm
  | succ k ih =>
    intro x hx
    simp only [ext, List.mem_append, List.mem_singleton] at hx
    rcases hx with hx | rfl
    · exact ih x hx
    unfold jg; omega
theorem Ik (l : List UInt8) : ∀ x ∈ words l, x < 4294967296 := tO _ (sJ l 16) 48
theorem gV {m : List Nat} (hm : ∀ x ∈ m, x < 4294967296) (k : Nat) : m.getD k 0 < 4294967296 := by
 rw [List.getD_eq_getElem?_getD];rcases h : m[k]? with _ | x
 ·simp
 simpa [h] using hm x (List.mem_of_getElem? h)
theorem TF : ∀ x ∈ K, x < 4294967296 := by decide +kernel
theorem BN {s : S8} (h : s.ok) (k w : Nat) : (As s k w).ok := by obtain ⟨h1, h2, h3, h4, h5, h6, h7, h8⟩ := h;exact ⟨Nat.mod_lt _ (by omega), h1, h2, h3, Nat.mod_lt _ (by omega), h5, h6, h7⟩
theorem iH (w : List Nat) {s : S8} (h : s.ok) (t : Nat) : (rounds w s t).ok := by induction t with
 | zero => exact h
 | succ t ih => exact BN ih _ _
theorem Bu (s x : S8) : (s.add x).ok := ⟨Nat.mod_lt _ (by omega), Nat.mod_lt _ (by omega), Nat.mod_lt _ (by omega), Nat.mod_lt _ (by omega), Nat.mod_lt _ (by omega), Nat.mod_lt _ (by omega), Nat.mod_lt _ (by omega), Nat.mod_lt _ (by omega)⟩
theorem vH (s : S8) (b : List UInt8) : (step s b).ok := Bu _ _
theorem uz : IV.ok := by unfold S8.ok IV; decide
theorem mC {s : S8} (h : s.ok) (l : List UInt8) (k : Nat) : (blocks s l k).ok := by cases k with
 | zero => exact h
 | succ k => exact vH _ _
theorem cP (n : Nat) : (pad n).length = 9 + cA n := by simp [pad, kT]; omega
theorem kF (n : Nat) : (n + (pad n).length) % 64 = 0 := by rw [cP]; unfold cA; omega
theorem kl (s : S8) : s.bytes.length = 32 := rfl
theorem cn (b : List UInt8) : (sum b).length = 32 := rfl
def fV (l m : List Nat) (k : Nat) : List Nat := (List.zipWith (fun x y => (x + y) % 4294967296) l m).take k ++ l.drop k
theorem mE (l m : List Nat) : fV l m 0 = l := by simp [fV]
theorem l9 {m : List Nat} (h : l.length = m.length) {k : Nat} (hk : k ≤ l.length) : (fV l m k).length = l.length := by simp [fV, ← h]; omega
theorem oe {m : List Nat} (h : l.length = m.length) {k : Nat} (hk : k < l.length) : (fV l m k).getD k 0 = l.getD k 0 := by
 have e : ((List.zipWith (fun x y => (x + y) % 4294967296) l m).take k).length = k := by grind
 simp only [fV, List.getD_eq_getElem?_getD];rw [List.getElem?_append_right (by omega), e, Nat.sub_self, List.getElem?_drop, Nat.add_zero]
theorem ox {m : List Nat} (h : l.length = m.length) {k : Nat} (hk : k < l.length) : (fV l m k).set k ((l.getD k 0 + m.getD k 0) % 4294967296) = fV l m (k + 1) := by
 have e : ((List.zipWith (fun x y => (x + y) % 4294967296) l m).take k).length = k := by grind
 have hz : k < (List.zipWith (fun x y => (x + y) % 4294967296) l m).length := by grind
 simp only [fV];rw [List.set_append_right _ _ (by omega), e, Nat.sub_self, List.take_succ_eq_append_getElem hz, List.drop_eq_getElem_cons hk];grind
theorem r8 (s x : S8) : (s.add x).list = fV s.list x.list 8 := rfl
end Sha
namespace Mac
def N2 (key : Lb) : List UInt8 := let k := if 64 < key.length then Sha.sum key else key; k ++ iC (64 - k.length)
def held (key : Lb) (c : UInt8) : List UInt8 := (N2 key).map (· ^^^ c)
def tag (key text : Lb) : List UInt8 := Sha.sum (held key 92 ++ Sha.sum (held key 54 ++ text))
theorem nF (key : Lb) : (N2 key).length = 64 := by
 unfold N2;by_cases h : 64 < key.length
 ·simp [h, iC, Sha.cn]
 simp [h, iC]; omega
theorem ia (key : Lb) (c : UInt8) : (held key c).length = 64 := by simp [held, nF]
theorem dQ (key text : Lb) : (tag key text).length = 32 := Sha.cn _
end Mac
namespace Wire
def be : Nat → Nat → List UInt8
 | 0, _ => []
 | k + 1, n => be k (n / 256) ++ [UInt8.ofNat n]
theorem iK : ∀ (k n : Nat), (be k n).length = k
 | 0, _ => rfl
 | k + 1, n => by simp [be, iK k]
theorem zB : ∀ (k n : Nat), be (k + 1) n = [UInt8.ofNat (n / 256 ^ k)] ++ be k n
  | 0, n => by simp [be]
  | k + 1, n => by rw [be, zB k (n / 256)];rw [be];simp [Nat.div_div_eq_div_mul, Nat.pow_succ, Nat.mul_comm]
def len (n : Nat) : List UInt8 :=
 if n < 64 then [UInt8.ofNat n]
 else if n < 16384 then [UInt8.ofNat (64 + n / 256), UInt8.ofNat (n % 256)]
 else [UInt8.ofNat (128 + n / 16777216), UInt8.ofNat (n / 65536 % 256), UInt8.ofNat (n / 256 % 256), UInt8.ofNat (n % 256)]
def jK (n : Nat) : Nat := if n < 64 then 1 else if n < 16384 then 2 else 4
theorem AO (n : Nat) : (len n).length = jK n := by unfold len jK; grind
theorem bE (n : Nat) : 1 ≤ jK n ∧ jK n ≤ 4 := by unfold jK; grind
theorem ofNat_eq {a : Nat} (h : a % 256 = b % 256) : UInt8.ofNat a = UInt8.ofNat b := UInt8.toNat_inj.1 (by simp_all)
theorem PK (n : Nat) (h : n < 1073741824) : be (jK n) (jK n / 2 * 2 ^ (8 * jK n - 2) + n) = len n := by
 unfold len jK;by_cases h1 : n < 64
 ·simp [h1, be]
 by_cases h2 : n < 16384
 ·simp only [h1, h2, if_true, if_false, be, List.nil_append, List.cons_append];congr 1
  ·grind
  congr 1;exact ofNat_eq Om
 simp only [h1, h2, if_false, be, List.nil_append, List.cons_append];congr 1
 ·grind
 congr 1
 ·exact ofNat_eq Om
 congr 1
 ·exact ofNat_eq Om
 congr 1;exact ofNat_eq Om
def vec (v : Lb) : List UInt8 := len v.length ++ v
theorem iV (v : Lb) : (vec v).length = jK v.length + v.length := by simp [vec, AO]
end Wire
namespace Kdf
def T (secret info : Lb) : Nat → List UInt8
 | 0 => []
 | k + 1 => Mac.tag secret (T secret info k ++ info ++ [UInt8.ofNat (k + 1)])
def Au (secret info : Lb) : Nat → List UInt8
 | 0 => []
 | k + 1 => Au secret info k ++ T secret info (k + 1)
theorem yQ (s i : Lb) (k : Nat) : (T s i (k + 1)).length = 32 := Mac.dQ _ _
theorem SD (s i : Lb) (k : Nat) : (T s i k).length ≤ 32 := by cases k <;> simp [T, Mac.dQ]
theorem nD (s i : Lb) : ∀ k, (Au s i k).length = 32 * k
 | 0 => rfl
 | k + 1 => by rw [Au, List.length_append, nD s i k, yQ]; omega
theorem JD (s i : Lb) (n : Nat) : ∀ k j, n ≤ 32 * k → k ≤ j → (Au s i j).take n = (Au s i k).take n := by
  intro k j _ _
  induction j with
  | zero => grind
  | succ j ih =>
    by_cases h : k = j + 1
    · rw [h]
    rw [Au, List.take_append_of_le_length (by rw [nD]; omega), ih Om]
def expand (s i : Lb) (n : Nat) : List UInt8 := (Au s i ((n + 31) / 32)).take n
theorem mV (s i : Lb) (n : Nat) : (expand s i n).length = n := by rw [expand, List.length_take, nD]; omega
theorem vz (s i : Lb) (n k : Nat) (h : n ≤ 32 * k) : (Au s i k).take n = expand s i n := JD s i n _ k Om Om
def JH : List UInt8 := [77, 76, 83, 32, 49, 46, 48, 32]
def info (label context : Lb) (n : Nat) : List UInt8 := Wire.be 2 n ++ Wire.vec (JH ++ label) ++ Wire.vec context
def label (secret l context : Lb) (n : Nat) : List UInt8 := expand secret (info l context n) n
end Kdf
end
section
open Go.RowKit Tryz
theorem Own.made (w : World) (base cap : Nat) (cur : Array Value) (hb : base ≤ w.heap.size) (hm : cap ≤ maxLen) (hs : cur.size = cap) : Own (w.alloc (.cells cur 5)) base (some ⟨w.heap.size, 0, none⟩) 0 cap [] :=
 World.ownsRow_made w cur cap hb hm Om
set_option maxHeartbeats 400000 in
theorem jU (A : Oa) (n c : Nat) (xs : Lb) (w : World) (ha : Bs w A n xs) (hn : n ≤ 140737488355328) :
  Calls Tryz.prog 181 #[.slice A n c] w fun e w' => ∃ A' c', e = .returned (.slice A' n c') ∧ Own w' w.heap.size A' n c' xs ∧ Below w.heap.size w w' := by
 have heq := fun (w : World) => Lib.run_eql_slice_nil (P := Tryz.prog) w _ _ A n c 0 0 underlying23;rcases A with _ | ad
 ·have hx : xs = [] := by
   rcases ha.2 with h | ⟨b, off, h, _⟩
   ·simpa using h
   cases h
  have Vs : n = 0 := by rw [← ha.1, hx]; rfl
  subst hx; subst Vs;go_enter func181, ntmps181;go_wp2;go_ret;exact ⟨none, 0, rfl, Own.empty _ _, Below.refl _ _⟩
 have HA := Lib.hid ha;clear ha;go_enter func181, ntmps181;go_wp2_with (at_builtin; refine fL (w0 := w) rfl _ _ _ rfl _ _ bT w.heap.size _ 0 [] rfl (Own.made w w.heap.size 0 #[] (Nat.le_refl _) Om rfl) (some ad) n c (xs.map bv) rfl (by rw [List.length_map]; exact HA.out.1) (HA.out.2.below ((Below.refl _ _).alloc (Nat.le_refl _) _)) aJ ?_ ?_ ((Below.refl _ _).alloc (Nat.le_refl _) _) ?_ ?_; rotate_right; intro A2 c2 w2 Vq Vr _ _)
 ·go_ret;refine ⟨A2, c2, rfl, ?_, Vr⟩;rw [Nat.zero_add] at Vq;exact Vq
 ·omega
 ·omega
 simp
theorem RY : (Tryz.prog.info? 5).map (fun i => (i.zero, i.size, i.bytes)) = some (some (.int .u8 0), 1, 1) := by kernel_rfl
set_option maxHeartbeats 400000 in
theorem Hi (n : Nat) (w : World) (hn : n ≤ 140737488355328) :
  Calls Tryz.prog 230 #[.slice none 0 0, .int .i64 n] w fun e w' => ∃ A' c', e = .returned (.slice A' 0 c') ∧ Own w' w.heap.size A' 0 c' [] ∧ Below w.heap.size w w' := by
 by_cases h0 : 0 < n
 ·obtain ⟨i, hi, hz, hs, hb⟩ := info_parts RY;have hrun := fun (ty : TypeId) => Lib.run_append_nil_zeros (P := Tryz.prog) w 23 3 ty 5 i _ .i64 .i64 underlying23 underlying3 hi hz n h0 Om Om (by rw [hb]; omega);have hge := grownCap_ge w n 0 5;have hle := grownCap_le_maxLen w n 0 5 (by unfold maxLen; omega)
  generalize grownCap w n 0 5 = cap at *
  have HR := Lib.hid hrun;clear hrun hz hs hb hi;go_enter func230, ntmps230;go_wp2_with (at_builtin; refine Lib.wpList_append_run w rfl (.tmp 20) (.tmp 21) _ _ rfl _ _ rfl rfl _ _ (HR.out _) ?_);go_ret;refine ⟨_, _, rfl, ?_, ((Below.refl _ _).drew).alloc (by simp) _⟩;exact Own.made w.drew w.heap.size cap _ (Nat.le_refl _) hle (by simp [Builtin.zeroCells]; omega)
 obtain rfl : n = 0 := by omega
 go_enter func230, ntmps230;go_wp2;go_ret;exact ⟨none, 0, rfl, Own.empty _ _, Below.refl _ _⟩
set_option maxHeartbeats 1000000 in
theorem gU (A : Oa) (n c : Nat) (xss : List (List UInt8)) (w : World) (ha : rO w A n xss) (hn : n ≤ 70368744177664) (hlen : xss.flatten.length ≤ 70368744177664) :
  Calls Tryz.prog 184 #[.slice A n c] w fun e w' => ∃ A' m c', e = .returned (.slice A' m c') ∧ Own w' w.heap.size A' m c' xss.flatten ∧ Below w.heap.size w w' := by
 have HA := Lib.hid ha;have HN : Hid (xss.length = n) := ha.1;clear ha;go_enter func184, ntmps184;go_wp2;go_loop [3, 5, 11] (fun s _ i => ∃ k F : Nat, k ≤ n ∧ i = .int .i64 k ∧ s = .int .i64 F ∧ F = (xss.take k).flatten.length) (fun _ _ i => n - (intOf i).toNat);case atStart => exact ⟨0, 0, by omega, rfl, rfl, rfl⟩
 case round =>
  obtain ⟨k, F, hk, rfl, rfl, hF⟩ := hrel
  have Vr := iw xss k
  rw [← hF] at Vr
  have Vx : F ≤ 70368744177664 := Nat.le_trans Vr hlen
  have HF := Lib.hid hF
  clear hF Vr
  by_cases hlt : k < n
  ·obtain ⟨b, off, B, m, c1, xs, rfl, hxs, hcell, hB⟩ := HA.out.get hlt
   have hsum : (xss.take (k + 1)).flatten.length = F + m := by rw [gH _ _ (by rw [HN.out]; exact hlt), List.length_append, ← hxs.out, hB.1, ← HF.out]
   have hle := iw xss (k + 1)
   rw [hsum] at hle
   have HS := Lib.hid hsum
   have Vy : F + m ≤ 70368744177664 := Nat.le_trans hle hlen
   have hq : (k : Int) < n := by omega
   clear hsum hle hB hlen
   go_wp2
   go_round
   case rel => exact ⟨k + 1, F + m, by omega, by go_num, by go_num, HS.out.symm⟩
   case measure => simp [intOf]; omega
  go_wp2_with fail
  refine (Hi _ _ Om).mono ?_
  rintro e _ ⟨A1, c1, rfl, Vq, Vv⟩
  have HO := Lib.hid Vq; have HB := Lib.hid Vv
  clear Vq Vv
  go_wp2
  go_loopw [6, 8, 27] (fun v _ i wr => ∃ (k m : Nat) (A' : Oa) (c' : Nat), k ≤ n ∧ i = .int .i64 k ∧ v = .slice A' m c' ∧ Below w.heap.size w wr ∧ Own wr w.heap.size A' m c' (xss.take k).flatten) (fun _ _ i _ => n - (intOf i).toNat)
  case atStart => exact ⟨0, 0, A1, c1, by omega, rfl, rfl, HB.out, HO.out⟩
  case round =>
   obtain ⟨k, m, A', c', hk, rfl, rfl, hbw, hown⟩ := hrel
   by_cases Vs : k < n
   ·obtain ⟨b, off, B, mm, c2, xs, rfl, hxs, hcell, hB⟩ := (HA.out.below hbw).get Vs
    have hm := hown.len
    have hle := iw xss (k + 1)
    rw [gH _ _ (by rw [HN.out]; exact Vs), List.length_append, ← hxs.out, hB.1, hm] at hle
    have hq : (k : Int) < n := by omega
    have Vw := Lib.hid hB
    clear hm hB
    go_wp2_with (at_builtin; refine fL (w0 := w) rfl _ _ _ rfl _ _ bT w.heap.size _ _ _ rfl hown _ _ _ (xs.map bv) rfl (by rw [List.length_map]; exact Vw.out.1) Vw.out.2 aJ ?_ ?_ hbw ?_ ?_; rotate_right; intro A2 c2 w2 Vt Vu _ _)
    ·go_roundw
     case rel => exact ⟨k + 1, _, A2, c2, by omega, by go_num, rfl, Vu, (Own.app Vt).congr rfl (by rw [gH _ _ (by rw [HN.out]; exact Vs), ← hxs.out])⟩
     case measure => simp [intOf]; omega
    ·omega
    ·omega
    exact hbw.size
   go_wp2
   go_ret
   exact ⟨A', m, c', rfl, hown.congr rfl (by rw [List.take_of_length_le (by rw [HN.out]; omega)]), hbw⟩
end
section
open Go.RowKit
section
theorem Addr.add_plain (b off i : Nat) : (⟨b, off, none⟩ : Addr).add i = ⟨b, off + i, none⟩ := by unfold Addr.add; grind
theorem qv {o' : Nat} (hx : ev L x = some (.pointer (some ⟨b, off, none⟩))) (hu : P.underlying t = some (.struct fs)) (hf : (fs[i]?).map (fun f => (f.offset, f.type)) = some (o, ft)) (hs : (P.info? ft).map (·.size) = some s) (h0 : (s == 0) = false) (ho : off + o = o') :
    Y P L w (.fieldAddr t x i) ty (.pointer (some ⟨b, o', none⟩)) := fun ρ hρ w' _ _ _ _ _ => by
  subst ho
  cases hq : fs[i]? with
  | none => simp [hq] at hf
  | some f =>
    simp only [hq, Option.map_some, Option.some.injEq, Prod.mk.injEq] at hf
    obtain ⟨rfl, rfl⟩ := hf
    have hsz := bJ hs w'
    have h0' : s ≠ 0 := by simpa using h0
    simp [execOp, hρ _ _ hx, Instr.fieldAt, Instr.sureAddr, run_underlying hu, hq, fieldPlace, hsz, h0', Addr.add_plain]
theorem Ks {d : TypeDesc} (hu : P.underlying t = some d) (hd : (match d with | .struct _ | .array _ _ => false | _ => true) = true) (w' : World) : (isAgg t).run P w' = .ok false w' := by
 cases d <;> simp_all [isAgg, run_underlying hu]
theorem mv {d : TypeDesc} (hu : P.underlying t = some d) (hd : (match d with | .struct _ | .array _ _ => true | _ => false) = true) (w' : World) : (isAgg t).run P w' = .ok true w' := by
 cases d <;> simp_all [isAgg, run_underlying hu]
theorem Lp {cs vs : Array Value} {i o s : Nat} {fs : Array Field} {ft : TypeId} {d : TypeDesc} (hx : ev L x = some (.agg cs)) (hu : P.underlying t = some (.struct fs)) (hf : (fs[i]?).map (fun f => (f.offset, f.type)) = some (o, ft)) (he : P.underlying ft = some d) (hd : (match d with | .struct _ | .array _ _ => true | _ => false) = true) (hs : (P.info? ft).map (·.size) = some s) (hv : cs.extract o (o + s) = vs) :
    Y P L w (.field t x i) ty (.agg vs) := fun ρ hρ w' _ _ _ _ _ => by
  subst hv
  cases hq : fs[i]? with
  | none => simp [hq] at hf
  | some f =>
    simp only [hq, Option.map_some, Option.some.injEq, Prod.mk.injEq] at hf
    obtain ⟨rfl, rfl⟩ := hf
    simp [execOp, hρ _ _ hx, Instr.field, run_underlying hu, hq, asAgg, part, mv he hd w', bJ hs w']
theorem SP {n j s : Nat} {a : Int} {k : IntKind} {cs vs : Array Value} {d : TypeDesc} (hx : ev L x = some (.agg cs)) (hy : ev L y = some (.int k a)) (hu : P.underlying t = some (.array n e)) (he : P.underlying e = some d) (hd : (match d with | .struct _ | .array _ _ => true | _ => false) = true)
  (hs : (P.info? e).map (·.size) = some s) (ha : a = (j : Int)) (hj : j < n) (hv : cs.extract (j * s) (j * s + s) = vs) : Y P L w (.index t x y) ty (.agg vs) := fun ρ hρ w' _ _ _ _ _ => by
 subst ha; subst hv;have hb : 0 ≤ (j : Int) ∧ (j : Int) < n := by omega
 simp [execOp, hρ _ _ hx, hρ _ _ hy, Instr.index, asIntOf, run_underlying hu, hb, part, mv he hd w', bJ hs w', hj]
theorem Jh {p : Oa} (hx : ev L x = some (.pointer p)) (hy : ev L y = some (.pointer none)) (hu : P.underlying t = some (.pointer e)) : Y P L w (.binOp .eql t x y t') ty (.bool p.isNone) := fun ρ hρ w' _ _ _ _ _ => by have h := run_eql_pointer_nil (P := P) w' t p (by simp [Program.pointee, hu]);simp [execOp, hρ _ _ hx, hρ _ _ hy, eqGuard, h]
def QV (L : List (Nat × Value)) : List (Nat × Operand) → Option (List (Nat × Value))
  | [] => some []
  | p :: ps => match ev L p.2, QV L ps with
    | some v, some vs => some ((p.1, v) :: vs)
    | _, _ => none
theorem C8 {ρ : Operand → Value} (hρ : ∀ x u, ev L x = some u → ρ x = u) : ∀ (ps : List (Nat × Operand)) {vs : List (Nat × Value)}, QV L ps = some vs → ps.map (fun p => (p.1, ρ p.2)) = vs
  | [], vs, hx => by simp [QV] at hx; simp [hx]
  | p :: ps, vs, hx => by
    simp only [QV] at hx
    cases h1 : ev L p.2 with
    | none => simp [h1] at hx
    | some v =>
      cases h2 : QV L ps with
      | none => simp [h1, h2] at hx
      | some us =>
        simp only [h1, h2, Option.some.injEq] at hx
        subst hx
        rw [List.map_cons, C8 hρ ps h2, hρ _ _ h1]
theorem ar (hx : QV L ps.toList = some qs) (h : P.built t qs = some cells) : Y P L w (.build t ps) ty (.agg cells) := fun ρ hρ w' _ _ _ _ _ => by have e := C8 hρ ps.toList hx;have hr := run_build (P := P) w' t (ps.map fun p => (p.1, ρ p.2)) cells (by simp_all);have e2 : (execOp ρ ⟨‹_›, .build t ps, ty, ‹_›, ‹_›, ‹_›⟩) = (do pure (.value (← Instr.build t (ps.map fun p => (p.1, ρ p.2))))) := rfl;simp_all
theorem dP {ad : Addr} {cs : Array Value} {d : TypeDesc} (hx : ev L x = some (.pointer (some ad))) (hu : P.underlying t = some d) (hd : (match d with | .struct _ | .array _ _ => true | _ => false) = true) (hs : (P.info? t).map (·.size) = some cs.size)
  (hr : ∀ j v, cs[j]? = some v → w.cell? (ad.add j) = some v) : Y P L w (.load t x) ty (.agg cs) := fun ρ hρ w' ex _ _ _ _ => by
 have hl := run_loadCells_list (P := P) w' ad cs.toList fun j v hv => (ex.cell (dX (hr j v (by simpa using hv)))).trans (hr j v (by simpa using hv));have hl' : (loadCells ad cs.size).run P w' = .ok cs w' := by simpa using hl
 simp [execOp, hρ _ _ hx, Instr.loadAt, Instr.sureAddr, loadVar, mv hu hd w', bJ hs w', hl']
theorem JX {a : Int} (hx : ev L x = some (.slice (some ⟨b, off, none⟩) n m)) (hy : ev L y = some (.int k a)) (hu : P.underlying t = some (.slice e)) (hs : (P.info? e).map (·.size) = some s) (ha : a = (j : Int)) (hj : j < n) :
  Y P L w (.indexAddr t x y) ty (.pointer (some ⟨b, off + j * s, none⟩)) := by
 have h := OI (w := w) (ty := ty) hx hy hu hs ha hj;rwa [Addr.add_plain] at h
theorem wJ {a : Int} (hx : ev L x = some (.pointer (some ⟨b, off, none⟩))) (hy : ev L y = some (.int k a)) (hu : P.underlying t = some (.array n e)) (hs : (P.info? e).map (·.size) = some s) (ha : a = (j : Int)) (hj : j < n) :
  Y P L w (.indexAddr t x y) ty (.pointer (some ⟨b, off + j * s, none⟩)) := by
 have h := Oy (w := w) (ty := ty) hx hy hu hs ha hj;rwa [Addr.add_plain] at h
theorem aP (hx : ev L x = some (.pointer (some ⟨g, o, none⟩))) (hy : ev L y = some (.agg cells)) (hs : (P.info? t).map (·.size) = some cells.size) (hg : ao w g e old) (ho : o + cells.size ≤ old.size) (h1 : cells.all (·.oneCell') = true) :
  Ef P L w (.store t x y) ty fun u w' => u = undef ∧ ao w' g e (old.toList.take o ++ cells.toList ++ old.toList.drop (o + cells.size)).toArray ∧ lF w g w' := by
 have h1' : ∀ v ∈ cells.toList, v.oneCell' = true := fun v hv => by rw [Array.all_eq_true] at h1;obtain ⟨i, hi, rfl⟩ := List.getElem_of_mem hv;grind
 have hst := run_storeCells_at P g o e cells.toList 0 old w hg (by simpa using ho) h1';simp only [Nat.add_zero, Array.length_toList] at hst;exact (Ef.P9 (Φ := fun w' => w' = w.setRow g (old.toList.take o ++ cells.toList ++ old.toList.drop (o + cells.size)).toArray) fun ρ hρ => ⟨_, rfl, fun _ _ _ _ => by simp [execOp, hρ _ _ hx, hρ _ _ hy, Instr.storeAt, Instr.sureAddr, storeVar, Value.cells, bJ hs w, hst]⟩).mono fun _ w' ⟨hu, hw⟩ => ⟨hu, by subst hw; exact hg.row _, by subst hw; exact nO w g _⟩
theorem wI {ρ : Operand → Value} (hρ : ∀ x u, ev L x = some u → ρ x = u) : ∀ (xs : List Operand) {vs : List Value}, qe L xs = some vs → xs.map ρ = vs
  | [], vs, hx => by simp [qe] at hx; simp [hx]
  | x :: xs, vs, hx => by
    simp only [qe] at hx
    cases h1 : ev L x with
    | none => simp [h1] at hx
    | some v =>
      cases h2 : qe L xs with
      | none => simp [h1, h2] at hx
      | some us =>
        simp only [h1, h2, Option.some.injEq] at hx
        subst hx
        rw [List.map_cons, wI hρ xs h2, hρ _ _ h1]
theorem kr {xs : List Operand} (hx : qe L xs = some vs) : Y P L w (.makeFunc (.func f) #[] xs.toArray) ty (.func (.func f) #[] vs.toArray) := fun ρ hρ w' _ _ _ _ _ => by have e : (xs.map ρ) = vs := wI hρ xs hx;simp [execOp, Instr.makeFunc, e]
theorem lL {xs : List Operand} {R : Ending → World → Prop} {Φ : Value → World → Prop} {c : Code} (hz : ev L z = some (.func (.func f) #[] us.toArray)) (hf : P.funcs[f]? = some fn) (hb : fn.body = some c) (hn : (fn.name == "runtime.NumGoroutine") = false)
  (hx : qe L xs = some vs) (h : Calls P f (vs ++ us).toArray w R) (hR : ∀ e w', R e w' → ∃ v, e = .returned v ∧ Φ v w') : Ef P L w (.call { callee := .value z, args := xs.toArray, argTypes := ats }) ty Φ := by
 intro a N ha dst pos after guard K Q hK;unfold Oper.wp;have hzz : a.eval z = .func (.func f) #[] us.toArray := ha.ev hz;have e0 : (execOp a.eval { dst, op := .call { callee := .value z, args := xs.toArray, argTypes := ats }, type := ty, pos, after, guard }) = (do let d ← Deferred.ofValue (a.eval z) (xs.toArray.map a.eval); invoke d.target d.args) := rfl;rw [e0, hzz]
 have e : #[] ++ xs.toArray.map a.eval ++ us.toArray = (vs ++ us).toArray := by have := ha.qe hx;simp [this]
 have hrun : ((do let d ← Deferred.ofValue (.func (.func f) #[] us.toArray) (xs.toArray.map a.eval); invoke d.target d.args) : Sem Next).run P w = .ok (.enter f (vs ++ us).toArray) w := by
  have hn' : ¬ fn.name = "runtime.NumGoroutine" := by simpa using hn
  simp only [Deferred.ofValue, Sem.run_bind, Sem.run_pure, Result.andThen_ok, invoke];rw [e];simp [callFunc, hf, hb, hn']
 rw [hrun];simp only [Oper.upon];refine h.mono fun e w' hr => ?_;grind
theorem nT {xs : List Operand} (hx : qe L xs = some vs) (h : ∀ w' : World, (callFunc f vs.toArray).run P w' = .ok (.value v) w') : Y P L w (.call { callee := .value (.func f), args := xs.toArray, argTypes := ats }) ty v := fun ρ hρ w' _ dst pos after guard => by
 have e : #[] ++ xs.toArray.map ρ ++ #[] = vs.toArray := by simp [wI hρ xs hx]
 have e0 : (execOp ρ ⟨dst, .call { callee := .value (.func f), args := xs.toArray, argTypes := ats }, ty, pos, after, guard⟩) = (do let d ← Deferred.ofValue (ρ (.func f)) (xs.toArray.map ρ); invoke d.target d.args) := rfl;have e1 : ρ (.func f) = .func (.func f) #[] #[] := hρ _ _ rfl;rw [e0, e1];simp only [Deferred.ofValue, Sem.run_bind, Sem.run_pure, Result.andThen_ok, invoke];grind
theorem aK {f : FuncId} {fn : Func} {c : Code} {args : Array Value} {R : Ending → World → Prop} {s : Nat} {d : TypeDesc} (N : Nat) {u : Tmp} (hf : P.funcs[f]? = some fn) (hb : fn.body = some c) (hN : fn.ntmps = N) (hr : fn.results = #[.cell u ty]) (hu : P.underlying ty = some d) (hd : (match d with | .struct _ | .array _ _ => true | _ => false) = true) (hs : (P.info? ty).map (·.size) = some s) (hsz : Nat.ble args.size N = true)
  (h : ∀ Q : Exit → Act → World → Prop, (∀ {N : Nat} {L : List (Nat × Value)} {w : World} {g : Nat} {e : TypeId} {cs : Array Value}, look L u = some (.pointer (some ⟨g, 0, none⟩)) → ao w g e cs → cs.size = s → R (.returned (.agg cs)) w → WQ Q .ret N L w) → WC P Q c N (gk 0 args.toList) w) : Calls P f args w R :=
 fk N hf hb hN hsz fun Q hQ => h Q fun hv hg hsz' hR a ha => hQ (bodyPost_ret (results_cell_row hr _ _ _ _ _ _ _ (cK (ha.has _ _ hv)) hg hu hd (by grind)) ha.defers hR)
end
section
theorem NU {xs : List Operand} {Φ : Value → World → Prop} (hx : qe L xs = some vs) (h : ∃ v w', (callFunc f vs.toArray).run P w = .ok (.value v) w' ∧ Φ v w') : Ef P L w (.call { callee := .value (.func f), args := xs.toArray, argTypes := ats }) ty Φ := by
 obtain ⟨v, w', h, hΦ⟩ := h;refine Ef.run fun ρ hρ => ⟨v, w', hΦ, fun dst pos after guard => ?_⟩;have e : #[] ++ xs.toArray.map ρ ++ #[] = vs.toArray := by simp [wI hρ xs hx]
 have e0 : (execOp ρ ⟨dst, .call { callee := .value (.func f), args := xs.toArray, argTypes := ats }, ty, pos, after, guard⟩) = (do let d ← Deferred.ofValue (ρ (.func f)) (xs.toArray.map ρ); invoke d.target d.args) := rfl;have e1 : ρ (.func f) = .func (.func f) #[] #[] := hρ _ _ rfl;rw [e0, e1];simp only [Deferred.ofValue, Sem.run_bind, Sem.run_pure, Result.andThen_ok, invoke];rw [e];exact h
def Ph (w : World) (e : TypeId) (n : Nat) (v : Value) (w' : World) : Prop := ∃ g cs, v = .slice (some ⟨g, 0, none⟩) n cs.size ∧ ao w' g e cs ∧ n ≤ cs.size ∧ w.heap.size ≤ g ∧ Ext w w'
theorem NB {a b : Int} (hx : ev L x = some (.slice A n c')) (hy : ev L y = some (.int k a)) (hz : ev L z = some (.int k2 b)) (hu : P.underlying t = some (.slice e)) (hs : (P.info? e).map (·.size) = some s) (ha : a = (h : Int)) (hb' : b = (m : Int)) (hh : h ≤ m) (hm : m ≤ c') :
  Y P L w (.slice t x none (some y) (some z)) ty (.slice A h m) := fun ρ hρ w' _ _ _ _ _ => by
 subst ha; subst hb'
 have hb : ((Instr.sliceBounds true n c' none (some (.int k h)) (some (.int k2 m))).run P w') = .ok (0, h, m) w' := by simp [Instr.sliceBounds, Instr.sliceBound, asIntOf, hh, hm]
 simp [execOp, hρ _ _ hx, hρ _ _ hy, hρ _ _ hz, Instr.sliceAt, Instr.slice, run_underlying hu, hb, bJ hs];cases A <;> simp [Addr.add]
end
section
variable {c : Code} {R : Ending → World → Prop}
theorem du {ty : TypeId} {s : Nat} {d : TypeDesc} (N : Nat) {u t : Tmp} (hf : P.funcs[f]? = some fn) (hb : fn.body = some c) (hN : fn.ntmps = N) (hr : fn.results = #[.cell u ty, .tmp t]) (hu : P.underlying ty = some d) (hd : (match d with | .struct _ | .array _ _ => true | _ => false) = true) (hs : (P.info? ty).map (·.size) = some s) (hsz : Nat.ble args.size N = true)
  (h : ∀ Q : Exit → Act → World → Prop, (∀ {N : Nat} {L : List (Nat × Value)} {w : World} {g : Nat} {e : TypeId} {cs : Array Value} {v : Value}, look L u = some (.pointer (some ⟨g, 0, none⟩)) → look L t = some v → ao w g e cs → cs.size = s → R (.returned (.tuple #[.agg cs, v])) w → WQ Q .ret N L w) → WC P Q c N (gk 0 args.toList) w) : Calls P f args w R :=
 fk N hf hb hN hsz fun Q hQ => h Q fun {N L w g e cs v} hv ht hg hsz' hR a ha => hQ (bodyPost_ret (v := .tuple #[.agg cs, v]) (by
  rw [results_cell_tmp hr, cK (ha.has _ _ hv), cK (ha.has _ _ ht)]
  simp [asAddr, run_loadVar_row w g e ty cs _ d hg hu hd (by grind), Result.andThen]) ha.defers hR)
end
section
theorem FD {t : Tmp} (ha : Fr N L a) (hj : (ops[j]?).bind (·.dst) = some t) (ht : look L t = some undef) :
  Region.wanted ⟨dst, op, ty, pos, after, some (j, b')⟩ (yielded ops a.tmps) = false := by
 have h1 := ha.has t _ ht;simp only [Region.wanted, yielded, hj, Option.bind_some, h1];cases b' <;> rfl
theorem bZ (t : Tmp) (hj : (ops[j]?).bind (·.dst) = some t) (ht : look L t = some undef)
  (hd : jO N dst = true) (hr : WL P ops Q rest N (cG dst undef L) w) : WL P ops Q (⟨dst, op, ty, pos, after, some (j, b')⟩ :: rest) N L w := by
 intro a ha;refine wpList_step fun K hK => ?_;rw [if_neg (by rw [FD ha hj ht]; simp)];exact hK _ _ (hr _ (ha.oD hd undef))
end
section
variable {c : Code}
def JQ (J : List (Nat × Value) → World → Prop) (N : Nd) (Q : Exit → Act → World → Prop) : Exit → Act → World → Prop
 | .normal, a, w => ∃ L, Fr N L a ∧ J L w
 | e, a, w => Q e a w
theorem eD (J : List (Nat × Value) → World → Prop) (h1 : WC P (JQ J N Q) c N L w) (h2 : ∀ L' w', J L' w' → WQ Q .normal N L' w') : WC P Q c N L w := fun a ha =>
 wp_mono (h1 a ha) fun e a' w' hq => by
  cases e with
  | normal => obtain ⟨L', ha', hJ⟩ := hq; exact h2 L' w' hJ a' ha'
  | goto l => exact hq
  | exit i => exact hq
  | ret => exact hq
  | panic ch => exact hq
  | outgrown => exact hq
theorem bd {J : List (Nat × Value) → World → Prop} (L' : List (Nat × Value)) (hJ : J L' w) (hin : mY L L') : WQ (JQ J N Q) .normal N L w := fun _ ha => ⟨L', ha.sub hin, hJ⟩
end
section
variable {c : Code} {R : Ending → World → Prop}
theorem uc {p q : Tmp} {ty ty' : TypeId} (h : fn.results = #[.cell p ty, .cell q ty']) (tmps : Array Value) {g g' : Nat} {t t' : TypeId} {cs cs' : Array Value} {d d' : TypeDesc}
  (hp : tmps.getD p undef = .pointer (some ⟨g, 0, none⟩)) (hq : tmps.getD q undef = .pointer (some ⟨g', 0, none⟩)) (hg : ao w g t cs) (hg' : ao w g' t' cs') (hu : P.underlying ty = some d) (hd : (match d with | .struct _ | .array _ _ => true | _ => false) = true) (hi : (P.info? ty).map (·.size) = some cs.size)
  (hu' : P.underlying ty' = some d') (hd' : (match d' with | .struct _ | .array _ _ => true | _ => false) = true) (hi' : (P.info? ty').map (·.size) = some cs'.size) : (results fn tmps).run P w = .ok (.tuple #[.agg cs, .agg cs']) w := by
 have hp' : tmps[p]?.getD undef = .pointer (some ⟨g, 0, none⟩) := by simpa using hp
 have hq' : tmps[q]?.getD undef = .pointer (some ⟨g', 0, none⟩) := by simpa using hq
 simp [results, h, hp', hq', asAddr, run_loadVar_row w g t ty cs _ d hg hu hd hi, run_loadVar_row w g' t' ty' cs' _ d' hg' hu' hd' hi']
theorem Bk {ty ty' : TypeId} {s s' : Nat} {d d' : TypeDesc} (N : Nat) {u t : Tmp} (hf : P.funcs[f]? = some fn) (hb : fn.body = some c) (hN : fn.ntmps = N) (hr : fn.results = #[.cell u ty, .cell t ty']) (hu : P.underlying ty = some d) (hd : (match d with | .struct _ | .array _ _ => true | _ => false) = true) (hs : (P.info? ty).map (·.size) = some s)
  (hu' : P.underlying ty' = some d') (hd' : (match d' with | .struct _ | .array _ _ => true | _ => false) = true) (hs' : (P.info? ty').map (·.size) = some s') (hsz : Nat.ble args.size N = true)
  (h : ∀ Q : Exit → Act → World → Prop, (∀ {N : Nat} {L : List (Nat × Value)} {w : World} {g g' : Nat} {e e' : TypeId} {cs cs' : Array Value}, look L u = some (.pointer (some ⟨g, 0, none⟩)) → look L t = some (.pointer (some ⟨g', 0, none⟩)) → ao w g e cs → cs.size = s → ao w g' e' cs' → cs'.size = s' → R (.returned (.tuple #[.agg cs, .agg cs'])) w → WQ Q .ret N L w) → WC P Q c N (gk 0 args.toList) w) : Calls P f args w R :=
 fk N hf hb hN hsz fun Q hQ => h Q fun {N L w g g' e e' cs cs'} hv ht hg hz hg' hz' hR a ha => hQ (bodyPost_ret (v := .tuple #[.agg cs, .agg cs']) (uc hr _ (cK (ha.has _ _ hv)) (cK (ha.has _ _ ht)) hg hg' hu hd (by grind) hu' hd' (by grind)) ha.defers hR)
end
def LW (P : Program) (ops : Array Oper) (Q : Exit → Act → World → Prop) (w0 : World) : Nat → Array Bool → Act → World → Prop
 | 0, listed, a, w => Region.ready .any ops listed = [] ∧ Q .normal a w
 | n + 1, listed, a, w => (Region.ready .any ops listed = [] → Q .normal a w) ∧
   ∀ i ∈ Region.ready .any ops listed, wpOp P ops Q i (fun a' w' => Ext w0 w' ∧ LW P ops Q w0 n (listed.setIfInBounds i true) a' w') a w
theorem CX : ∀ (n : Nat) (listed : Array Bool) (a : Act) (w : World), LW P ops Q w0 n listed a w → wpAny P .any ops Q n listed a w
 | 0, _, _, _, h => h
 | n + 1, _, _, _, h => ⟨h.1, fun i hi => wpOp_mono (fun a' w' h' => CX n _ a' w' h'.2) (h.2 i hi)⟩
theorem uR (D : Nat → Bool) (hi : ops[i]? = some oi) (hsel : ∀ (j : Nat) (o : Oper) cs b, ops[j]? = some o → o.op ≠ .select cs b)
    (hQ : ∀ c a w, Q (.panic c) (a.put oi.dst v) w → Q (.panic c) a w) :
    ∀ (n : Nat) (listed : Array Bool) (a : Act) (w : World), Ext w0 w →
      (∀ j oj, ops[j]? = some oj → j ≠ i → listed.getD j true = false → D j = true → ∃ e ∈ oj.after, Region.binds .any e = true ∧ (e.on = i ∨ D e.on = true ∧ listed.getD e.on true = false)) →
      (∀ j oj, ops[j]? = some oj → j ≠ i → listed.getD j true = false → D j = false → oi.apart ops oj = true) →
      i ∈ Region.ready .any ops listed → YieldsIf P ops (fun w' => Ext w0 w') oi v a →
      LW P ops Q w0 n (listed.setIfInBounds i true) (a.put oi.dst v) w → LW P ops Q w0 (n + 1) listed a w := by
  intro n
  induction n with
  | zero =>
    intro listed a w hx0 _ _ hr hy H
    refine ⟨fun h => (by grind), fun j hj => ?_⟩
    by_cases hji : j = i
    · subst hji; exact hy.wpOp hi hx0 ⟨hx0, H⟩
    have := ready_mono hj hji
    rw [H.1] at this
    cases this
  | succ n ih =>
    intro listed a w hx0 hdep hfree hr hy H
    refine ⟨fun h => (by grind), fun j hj => ?_⟩
    by_cases hji : j = i
    · subst hji; exact hy.wpOp hi hx0 ⟨hx0, H⟩
    have h1 := H.2 j (ready_mono hj hji)
    obtain ⟨hjun, oj, hoj, hall⟩ := mem_ready.1 hj
    have hDj : D j = false := by
      cases hd : D j with
      | false => rfl
      | true =>
        exfalso
        obtain ⟨e, he, hb, hor⟩ := hdep j oj hoj hji hjun hd
        have h1 := hall e he hb
        rcases hor with heq | ⟨_, hun⟩
        · have h0 := (mem_ready.1 hr).1
          grind
        grind
    have hap := hfree j oj hoj hji hjun hDj
    have h2 := wpOp_putIf hoj hap (fun cs b => hsel i oi cs b hi) (fun cs b => hsel j oj cs b hoj) hQ hy h1
    have back : ∀ k, (listed.setIfInBounds j true).getD k true = false → listed.getD k true = false := fun k hun => by
      by_cases hjk : j = k
      · grind
      simp_all
    have hdep' : ∀ k ok, ops[k]? = some ok → k ≠ i → (listed.setIfInBounds j true).getD k true = false → D k = true → ∃ e ∈ ok.after, Region.binds .any e = true ∧ (e.on = i ∨ D e.on = true ∧ (listed.setIfInBounds j true).getD e.on true = false) := fun k ok hk hki hun hd => by
      obtain ⟨e, he, hb, hor⟩ := hdep k ok hk hki (back k hun) hd;refine ⟨e, he, hb, hor.imp id fun ⟨h3, h4⟩ => ⟨h3, ?_⟩⟩;have hne : j ≠ e.on := by grind
      simp_all
    have hfree' : ∀ k ok, ops[k]? = some ok → k ≠ i → (listed.setIfInBounds j true).getD k true = false → D k = false → oi.apart ops ok = true := fun k ok hk hki hun hd =>
      hfree k ok hk hki (back k hun) hd
    refine wpOp_mono (fun a' w' h3 => ?_) h2
    obtain ⟨hy', hx, hrest⟩ := h3
    refine ⟨hx, ih (listed.setIfInBounds j true) a' w' hx hdep' hfree' (ready_mono hr (Ne.symm hji)) hy' ?_⟩
    rw [Array.setIfInBounds_comm _ _ hji]
    exact hrest
def WN (P : Program) (ops : Array Oper) (Q : Exit → Act → World → Prop) (w0 : World) (n : Nat) (listed : Array Bool) (N : Nd) (L : List (Nat × Value)) (w : World) : Prop := ∀ a, Fr N L a → Ext w0 w → LW P ops Q w0 n listed a w
theorem dB {l : List Oper} (hm : P.follows .mixedOrders = true) (n : Nat) (hn : l.length = n) (h : ∀ w', Ext w w' → w'.heap = w.heap → WN P l.toArray (jD Q) w' n (Array.replicate n false) N L w') : WC P Q (.region id l.toArray true) N L w := by
 intro a ha;subst hn
 have h1 : (Code.region id l.toArray true).wp P (jD Q) a w := by refine wp_region_any hm (CX (w0 := w.drew) _ _ _ _ ?_);rw [List.size_toArray];exact h _ (Ext.drew w) rfl a ha (Ext.refl _)
 refine wp_mono h1 fun e a w hq => ?_;cases e <;> first | exact hq | exact hq.elim
theorem dW (hr : Region.ready .any ops listed = []) (h : WQ Q .normal N L w) : WN P ops Q w0 n listed N L w := by
 intro a ha _
 cases n with
 | zero => exact ⟨hr, h a ha⟩
 | succ n => exact ⟨fun _ => h a ha, by rw [hr]; simp⟩
theorem Mw (hi : ops[i]? = some oi) (hf : mT .any ops listed i = true)
  (hy : ∀ a, Fr N L a → YieldsIf P ops (fun w' => Ext w0 w') oi v a) (hd : jO N oi.dst = true) (h : WN P ops (jD Q) w0 n (listed.setIfInBounds i true) N (cG oi.dst v L) w) : WN P ops (jD Q) w0 (n + 1) listed N L w := by
 intro a ha hx;unfold mT at hf;generalize iy .any ops listed i = D at hf;simp only [rC, hi, Bool.and_eq_true, List.all_eq_true, List.mem_range, Bool.or_eq_true, beq_iff_eq] at hf;obtain ⟨⟨h1, h2⟩, h4⟩ := hf
 have key : ∀ j oj, ops[j]? = some oj → j ≠ i → listed.getD j true = false → cond (D.getD j false) (oj.after.any fun e => Region.binds .any e && (e.on == i || (D.getD e.on false && !listed.getD e.on true))) (oi.apart ops oj) = true := fun j oj hj hne hun => by grind
 refine uR (fun j => D.getD j false) hi (Region.noSelect_spec h1) (fun c a w h => h) n listed a w hx (fun j oj hj hne hun hd => ?_) (fun j oj hj hne hun hd => ?_) (by simpa using h4) (hy a ha) (h _ (ha.oD hd v) hx)
 ·grind
 grind
section
variable (i : Nat) {b : Bool}
theorem cS (hi : ops[i]? = some ⟨dst, op, ty, pos, after, none⟩) (hf : mT .any ops listed i = true) (h : Y P L w0 op ty v) (hd : jO N dst = true)
  (hr : WN P ops (jD Q) w0 n (listed.setIfInBounds i true) N (cG dst v L) w) : WN P ops (jD Q) w0 (n + 1) listed N L w :=
 Mw hi hf (fun a ha => .inl ⟨rfl, fun w' e => h a.eval (fun _ _ hx => ha.ev hx) w' e _ _ _ _⟩) hd hr
end
def cZ (P : Program) (ops : Array Oper) (Q : Exit → Act → World → Prop) (w0 : World) (n : Nat) (listed : Array Bool) (i : Nat) (N : Nd) (L : List (Nat × Value)) (w : World) : Prop :=
 ∀ a, Fr N L a → Ext w0 w → wpOp P ops Q i (fun a' w' => Ext w0 w' ∧ LW P ops Q w0 n (listed.setIfInBounds i true) a' w') a w
theorem Rh (rs : List Nat) (hr : Region.ready .any ops listed = rs) (hne : rs.isEmpty = false) (h : ∀ i ∈ rs, cZ P ops Q w0 n listed i N L w) : WN P ops Q w0 (n + 1) listed N L w := by intro a ha hx;refine ⟨fun h0 => ?_, fun i hi => h i (hr ▸ hi) a ha hx⟩;grind
theorem df (i : Nat) (hr : Region.ready .any ops listed = [i]) (h : cZ P ops Q w0 n listed i N L w) : WN P ops Q w0 (n + 1) listed N L w :=
 Rh [i] hr rfl (fun k hk => by grind)
theorem eC {Φ : Value → World → Prop} (hi : ops[i]? = some ⟨dst, op, ty, pos, after, none⟩) (h : Ef P L w op ty Φ) (hd : jO N dst = true)
  (hr : ∀ v w', Φ v w' → Ext w0 w' ∧ WN P ops Q w0 n (listed.setIfInBounds i true) N (cG dst v L) w') : cZ P ops Q w0 n listed i N L w := by
 intro a ha hx;unfold wpOp;simp only [hi];rw [if_pos (by simp [Region.wanted])];exact .inl (h a N ha _ _ _ _ _ _ fun v w' hv => ⟨(hr v w' hv).1, (hr v w' hv).2 _ (ha.oD hd v) (hr v w' hv).1⟩)
section
variable {xs : List Operand} {R : Ending → World → Prop} {c : Code}
theorem Dk (hi : ops[i]? = some ⟨dst, .call { callee := .value (.func f), args := xs.toArray, argTypes := ats }, ty, pos, after, none⟩) (hf : P.funcs[f]? = some fn) (hb : fn.body = some c) (hn : (fn.name == "runtime.NumGoroutine") = false) (hx : qe L xs = some vs) (h : Calls P f vs.toArray w R) (hd : jO N dst = true)
  (hr : ∀ e w', R e w' → ∃ v, e = .returned v ∧ Ext w0 w' ∧ WN P ops Q w0 n (listed.setIfInBounds i true) N (cG dst v L) w') : cZ P ops Q w0 n listed i N L w :=
 eC hi (kU hf hb hn hx h hr) hd fun _ _ hv => hv
end
/-! What floats: operations that make memory of nothing, ready from the beginning, taken in where they are wanted. -/
def rk : Value → Option Nat
 | .pointer (some A) => some A.block
 | .slice (some A) _ _ => some A.block
 | _ => none
structure Fl where
 i : Nat
 d : Tmp
 R : Value → World → Prop
def Fl.PO (P : Program) (ops : Array Oper) (w0 : World) (L : List (Nat × Value)) (f : Fl) : Prop :=
 (∀ v w1 w2, f.R v w1 → Ext w1 w2 → f.R v w2) ∧
 ∃ op ty pos after, ops[f.i]? = some ⟨some f.d, op, ty, pos, after, none⟩ ∧ ∀ w1, Ext w0 w1 → Ef P L w1 op ty fun v w2 => Ext w1 w2 ∧ f.R v w2 ∧ ∀ b, rk v = some b → w1.heap.size ≤ b ∧ b < w2.heap.size
abbrev lG := List (Fl × Option Value)
def bc (listed : Array Bool) : lG → Array Bool
 | [] => listed
 | (f, o) :: st => if o.isSome then (bc listed st).setIfInBounds f.i true else bc listed st
def eO (listed : Array Bool) : List Fl → Array Bool
 | [] => listed
 | f :: fl => (eO listed fl).setIfInBounds f.i true
def cW : lG → Nat
 | [] => 0
 | (_, o) :: st => (if o.isSome then 0 else 1) + cW st
def yD (w0 : World) (a : Act) (w : World) (st : lG) : Prop := ∀ p ∈ st, ∀ v, p.2 = some v → a.tmps[p.1.d]? = some v ∧ p.1.R v w ∧ ∀ b, rk v = some b → w0.heap.size ≤ b ∧ b < w.heap.size
def gX : lG → Prop
 | [] => True
 | p :: st => (∀ q ∈ st, ∀ v u b, p.2 = some v → q.2 = some u → rk v = some b → rk u = some b → False) ∧ gX st
def WF (P : Program) (ops : Array Oper) (Q : Exit → Act → World → Prop) (w0 : World) (fl : List Fl) (n : Nat) (listed : Array Bool) (N : Nd) (L : List (Nat × Value)) (w : World) : Prop :=
 ∀ (st : lG) (a : Act) (w1 : World), st.map (·.1) = fl → Fr N L a → Ext w w1 → Ext w0 w1 → yD w0 a w1 st → gX st → LW P ops Q w0 (n + cW st) (bc listed st) a w1
theorem kN (listed : Array Bool) (j : Nat) : ∀ (st : lG), (∀ p ∈ st, p.1.i ≠ j) → bc (listed.setIfInBounds j true) st = (bc listed st).setIfInBounds j true
  | [], _ => rfl
  | (f, o) :: st, h => by
    have ih := kN listed j st (fun p hp => h p (List.mem_cons_of_mem _ hp));have hne := h (f, o) List.mem_cons_self;simp only [bc];split
    · rw [ih, Array.setIfInBounds_comm _ _ (Ne.symm hne)]
    exact ih
theorem rh (listed : Array Bool) : ∀ (st : lG), cW st = 0 → bc listed st = eO listed (st.map (·.1))
  | [], _ => rfl
  | (f, o) :: st, h => by
    simp only [cW] at h
    have ho : o.isSome = true := by
      cases e : o.isSome with
      | true => rfl
      | false => simp [e] at h
    simp only [bc, ho, if_true, List.map_cons, eO];rw [rh listed st Om]
theorem pU (h : i ∈ Region.ready .any ops listed) (hne : i ≠ j) : i ∈ Region.ready .any ops (listed.setIfInBounds j true) := ready_mono h hne
theorem kP {listed : Array Bool} {i : Nat} : ∀ (st : lG), i ∈ Region.ready .any ops listed → (∀ p ∈ st, p.2.isSome = true → p.1.i ≠ i) → i ∈ Region.ready .any ops (bc listed st)
  | [], h, _ => h
  | (f, o) :: st, h, hne => by
    have ih := kP st h (fun p hp => hne p (List.mem_cons_of_mem _ hp));simp only [bc];split
    · rename_i ho
      exact pU ih (Ne.symm (hne (f, o) List.mem_cons_self ho))
    exact ih
theorem vA {listed : Array Bool} {i : Nat} : ∀ (st : lG), i ∈ Region.ready .any ops (bc listed st) → (∀ p ∈ st, p.1.i ≠ i) → i ∈ Region.ready .any ops (eO listed (st.map (·.1)))
  | [], h, _ => h
  | (f, o) :: st, h, hne => by
    have hne' := fun p hp => hne p (List.mem_cons_of_mem _ hp);have h0 := hne (f, o) List.mem_cons_self;simp only [List.map_cons, eO];simp only [bc] at h;split at h
    · -- it is on both sides: one less
      have key : ∀ (st : lG) (l : Array Bool), (∀ p ∈ st, p.1.i ≠ i) → i ∈ Region.ready .any ops (bc l st) → i ∈ Region.ready .any ops (eO l (st.map (·.1))) := by
        intro st
        induction st with
        | nil => intro l _ h; exact h
        | cons p st ih =>
          obtain ⟨g, u⟩ := p
          intro l hl h
          have hl' := fun p hp => hl p (List.mem_cons_of_mem _ hp)
          have hg := hl (g, u) List.mem_cons_self
          simp only [List.map_cons, eO]
          simp only [bc] at h
          have comm : ∀ (l : Array Bool) (k : Nat) (fl : List Fl), (eO l fl).setIfInBounds k true = eO (l.setIfInBounds k true) fl := by
            intro l k fl
            induction fl with
            | nil => rfl
            | cons f fl ihf =>
              simp only [eO]
              rw [← ihf]
              by_cases e : f.i = k
              · subst e; rfl
              exact Array.setIfInBounds_comm _ _ e
          have comm2 : ∀ (l : Array Bool) (k : Nat) (st : lG), (bc l st).setIfInBounds k true = bc (l.setIfInBounds k true) st := by
            intro l k st
            induction st with
            | nil => rfl
            | cons f st ihf =>
              obtain ⟨f, o⟩ := f
              simp only [bc]
              split
              · rw [← ihf]
                by_cases e : f.i = k
                · subst e; rfl
                exact Array.setIfInBounds_comm _ _ e
              exact ihf
          rw [comm]
          split at h
          · rw [comm2] at h
            exact ih _ hl' h
          refine ih _ hl' ?_
          rw [← comm2]
          exact pU h (Ne.symm hg)
      have := key ((f, o) :: st) listed hne (by simp only [bc]; rw [if_pos (by assumption)]; exact h);simpa only [List.map_cons, eO] using this
    exact pU (vA st h hne') (Ne.symm h0)
def ju (v : Value) : lG → Nat → lG
 | [], _ => []
 | (f, o) :: st, 0 => (f, some v) :: st
 | p :: st, k + 1 => p :: ju v st k
theorem vC (v : Value) : ∀ (st : lG) (k : Nat), (ju v st k).map (·.1) = st.map (·.1)
 | [], _ => rfl
 | (_, _) :: _, 0 => rfl
 | p :: st, k + 1 => by simp only [ju, List.map_cons, vC v st k]
theorem oW (v : Value) : ∀ (st : lG) (k : Nat) (f : Fl), st[k]? = some (f, none) → cW (ju v st k) + 1 = cW st
  | [], _, _, h => by simp at h
  | (g, o) :: st, 0, f, h => by simp only [List.getElem?_cons_zero, Option.some.injEq, Prod.mk.injEq] at h;obtain ⟨rfl, rfl⟩ := h;simp [ju, cW]; omega
  | p :: st, k + 1, f, h => by simp only [List.getElem?_cons_succ] at h;have := oW v st k f h;obtain ⟨g, o⟩ := p;simp only [ju, cW]; omega
theorem ot (v : Value) (listed : Array Bool) : ∀ (st : lG) (k : Nat) (f : Fl), st[k]? = some (f, none) → (st.map (·.1.i)).Nodup → bc listed (ju v st k) = (bc listed st).setIfInBounds f.i true
  | [], _, _, h, _ => by simp at h
  | (g, o) :: st, 0, f, h, _ => by simp only [List.getElem?_cons_zero, Option.some.injEq, Prod.mk.injEq] at h;obtain ⟨rfl, rfl⟩ := h;simp [ju, bc]
  | (g, o) :: st, k + 1, f, h, hn => by
    simp only [List.getElem?_cons_succ] at h;simp only [List.map_cons, List.nodup_cons] at hn;have ih := ot v listed st k f h hn.2;simp only [ju, bc];have hmem : f.i ∈ st.map (·.1.i) := List.mem_map.2 ⟨(f, none), List.mem_of_getElem? h, rfl⟩;have hne : g.i ≠ f.i := fun e => hn.1 (e ▸ hmem);split
    · rw [ih, Array.setIfInBounds_comm _ _ (Ne.symm hne)]
    exact ih
theorem pC (v : Value) : ∀ (st : lG) (k : Nat) (f : Fl), st[k]? = some (f, none) → ∀ p ∈ ju v st k, p = (f, some v) ∨ p ∈ st
  | [], _, _, h, _, _ => by simp at h
  | (g, o) :: st, 0, f, h, p, hp => by simp only [List.getElem?_cons_zero, Option.some.injEq, Prod.mk.injEq] at h;obtain ⟨rfl, rfl⟩ := h;simp only [ju, List.mem_cons] at hp;exact hp.imp id (fun h => List.mem_cons_of_mem _ h)
  | (g, o) :: st, k + 1, f, h, p, hp => by
    simp only [List.getElem?_cons_succ] at h;simp only [ju, List.mem_cons] at hp;rcases hp with rfl | hp
    · exact .inr List.mem_cons_self
    exact (pC v st k f h p hp).imp id (fun h => List.mem_cons_of_mem _ h)
theorem qR (v : Value) : ∀ (st : lG) (k : Nat) (f : Fl), st[k]? = some (f, none) → gX st → (∀ q ∈ st, ∀ u b, q.2 = some u → rk u = some b → rk v = some b → False) → gX (ju v st k)
  | [], _, _, h, _, _ => by simp at h
  | (g, o) :: st, 0, f, h, ha, hv => by refine ⟨fun q hq v' u b h1 h2 h3 h4 => ?_, ha.2⟩;simp only [Option.some.injEq] at h1;subst h1;exact hv q (List.mem_cons_of_mem _ hq) u b h2 h4 h3
  | (g, o) :: st, k + 1, f, h, ha, hv => by
    simp only [List.getElem?_cons_succ] at h;refine ⟨fun q hq v' u b h1 h2 h3 h4 => ?_, qR v st k f h ha.2 (fun q hq => hv q (List.mem_cons_of_mem _ hq))⟩;rcases pC v st k f h q hq with rfl | hq
    · simp only [Option.some.injEq] at h2
      subst h2;exact hv (g, o) List.mem_cons_self v' b h1 h3 h4
    exact ha.1 q hq v' u b h1 h2 h3 h4
theorem Fr.De (h : Fr N L a) {d : Nat} (hd : look L d = none) (v : Value) : Fr N L (a.put (some d) v) := by
 refine ⟨by simp [Act.put, h.size], h.defers, fun t u hu => ?_⟩;have hne : d ≠ t := fun e => by grind
 simp only [Act.put];rw [Array.getElem?_setIfInBounds_ne hne];exact h.has t u hu
theorem Ro {d : Nat} (hd : d < a.tmps.size) (v : Value) : (a.put (some d) v).tmps[d]? = some v := by simp [Act.put, hd]
theorem Kb {d t : Nat} (hne : d ≠ t) (v : Value) : (a.put (some d) v).tmps[t]? = a.tmps[t]? := by simp only [Act.put]; rw [Array.getElem?_setIfInBounds_ne hne]
theorem wS {t : Nat} (hne : dst ≠ some t) (v : Value) : (a.put dst v).tmps[t]? = a.tmps[t]? := by
 cases dst with
 | none => rfl
 | some d => exact Kb (fun e => hne (by rw [e])) v
structure pT (P : Program) (ops : Array Oper) (w0 : World) (fl : List Fl) (listed : Array Bool) (N : Nd) (L : List (Nat × Value)) : Prop where
 runs : ∀ f ∈ fl, Fl.PO P ops w0 L f
 is : (fl.map (·.i)).Nodup
 ds : (fl.map (·.d)).Nodup
 slot : ∀ f ∈ fl, look L f.d = none ∧ f.d < N.n
 rdy : ∀ f ∈ fl, f.i ∈ Region.ready .any ops listed
theorem jz {fl : List Fl} {st : lG} (hst : st.map (·.1) = fl) {p : Fl × Option Value} (hp : p ∈ st) : p.1 ∈ fl := hst ▸ List.mem_map.2 ⟨p, hp, rfl⟩
theorem JW {fl : List Fl} {st : lG} (hst : st.map (·.1) = fl) (hn : (fl.map (·.i)).Nodup) : (st.map (·.1.i)).Nodup := by grind
theorem pq {α β : Type} {f : α → β} : ∀ {l : List α}, (l.map f).Nodup → ∀ p ∈ l, ∀ q ∈ l, f p = f q → p = q
  | x :: l, h, p, hp, q, hq, e => by
    simp only [List.map_cons, List.nodup_cons] at h;rcases List.mem_cons.1 hp with rfl | hp' <;> rcases List.mem_cons.1 hq with rfl | hq'
    · rfl
    · exact absurd (e ▸ List.mem_map.2 ⟨q, hq', rfl⟩) h.1
    · exact absurd (e ▸ List.mem_map.2 ⟨p, hp', rfl⟩) h.1
    exact pq h.2 p hp' q hq' e
theorem mj : ∀ (st : lG), cW st ≠ 0 → ∃ p ∈ st, p.2 = none
  | [], h => absurd rfl h
  | (f, o) :: st, h => by
    cases o with
    | none => exact ⟨_, List.mem_cons_self, rfl⟩
    | some v =>
      simp only [cW, Option.isSome_some, if_true, Nat.zero_add] at h
      obtain ⟨p, hp, e⟩ := mj st h
      exact ⟨p, List.mem_cons_of_mem _ hp, e⟩
theorem xH {fl : List Fl} {st : lG} (ok : pT P ops w0 fl listed N L) (hst : st.map (·.1) = fl) {p : Fl × Option Value} (hp : p ∈ st) (hn : p.2 = none) : p.1.i ∈ Region.ready .any ops (bc listed st) :=
 kP st (ok.rdy _ (jz hst hp)) fun q hq hs e => by have := pq (JW hst ok.is) q hq p hp e;grind
theorem zO : ∀ (st : lG), (∃ p ∈ st, p.2.isSome = true ∧ p.1.i = i) → i ∉ Region.ready .any ops (bc listed st) := by
  intro st ⟨p, hp, hs, hi⟩ hr;have h1 := (mem_ready.1 hr).1
  have key : ∀ (st : lG), (∃ p ∈ st, p.2.isSome = true ∧ p.1.i = i) → (bc listed st).getD i true = true := by
    intro st
    induction st with
    | nil => grind
    | cons q st ih =>
      obtain ⟨f, o⟩ := q
      rintro ⟨p, hp, hs, hi⟩
      simp only [bc]
      by_cases e : f.i = i
      · split
        · simp_all
        grind
      have hp' : p ∈ st := by grind
      have := ih ⟨p, hp', hs, hi⟩
      split
      · simp_all
      exact this
  grind
theorem LJ {fl : List Fl} {st : lG} (ok : pT P ops w0 fl listed N L) (hst : st.map (·.1) = fl) (ha : Fr N L a) (hx : Ext w w1) (hx0 : Ext w0 w1) (hh : yD w0 a w1 st) (hap : gX st)
  (ih : ∀ (st' : lG) (a' : Act) (w' : World), cW st' + 1 = cW st → st'.map (·.1) = fl → Fr N L a' → Ext w w' → Ext w0 w' → yD w0 a' w' st' → gX st' → LW P ops Q w0 (n + cW st') (bc listed st') a' w')
  {p : Fl × Option Value} (hp : p ∈ st) (hn : p.2 = none) : wpOp P ops Q p.1.i (fun a' w' => Ext w0 w' ∧ LW P ops Q w0 (n + (cW st - 1)) ((bc listed st).setIfInBounds p.1.i true) a' w') a w1 := by
 obtain ⟨hs, op, ty, pos, after, hi, hrun⟩ := ok.runs _ (jz hst hp);obtain ⟨k, hk⟩ := List.getElem?_of_mem hp;obtain ⟨f, o⟩ := p;simp only at hn;subst hn;unfold wpOp;simp only [hi];rw [if_pos (by simp [Region.wanted])];refine .inl (hrun w1 hx0 a N ha _ _ _ _ _ _ ?_);rintro v w' ⟨he, hR, hb⟩;have hu := oW v st k f hk;have hsz := hx0.size;have hsz' := he.size;refine ⟨hx0.tr he, ?_⟩;rw [← ot v listed st k f hk (JW hst ok.is), show n + (cW st - 1) = n + cW (ju v st k) by omega];have hfd := ok.slot f (jz hst hp);refine ih _ _ _ hu (by rw [vC, hst]) (ha.De hfd.1 v) (hx.tr he) (hx0.tr he) ?_ (qR v st k f hk hap fun q hq u b h1 h2 h3 => ?_)
 ·intro q hq u hu;rcases pC v st k f hk q hq with rfl | hq'
  ·simp only [Option.some.injEq] at hu;subst hu;exact ⟨Ro (by rw [ha.size]; exact hfd.2) v, hR, fun b hb' => by grind⟩
  obtain ⟨h1, h2, h3⟩ := hh q hq' u hu;refine ⟨?_, (ok.runs _ (jz hst hq')).1 _ _ _ h2 he, fun b hb' => by grind⟩;rw [Kb (fun e => ?_) v]
  ·exact h1
  have O0 := ok.ds;have := pq O0 f (jz hst hp) q.1 (jz hst hq') e;have h5 := pq (JW hst ok.is) (f, none) hp q hq' (by rw [this]);grind
 have := (hh q hq u h1).2.2 b h2;grind
theorem yU {fl : List Fl} {st : lG} (hst : st.map (·.1) = fl) (hi : i ∈ Region.ready .any ops (bc listed st)) : (∃ p ∈ st, p.2 = none ∧ p.1.i = i) ∨ ((∀ p ∈ st, p.1.i ≠ i) ∧ i ∈ Region.ready .any ops (eO listed fl)) := by
 by_cases h : ∃ p ∈ st, p.1.i = i
 ·left;obtain ⟨p, hp, e⟩ := h;refine ⟨p, hp, ?_, e⟩
  cases ho : p.2 with
  | none => rfl
  | some v => exact absurd hi (zO st ⟨p, hp, by rw [ho]; rfl, e⟩)
 right;have h' : ∀ p ∈ st, p.1.i ≠ i := fun p hp e => h ⟨p, hp, e⟩;exact ⟨h', hst ▸ vA st hi h'⟩
def IC (P : Program) (ops : Array Oper) (Q : Exit → Act → World → Prop) (w0 : World) (fl : List Fl) (n : Nat) (listed : Array Bool) (N : Nd) (L : List (Nat × Value)) (w : World) (j : Nat) : Prop :=
 (∀ f ∈ fl, f.i ≠ j) ∧ ∃ op ty dst pos after, ops[j]? = some ⟨dst, op, ty, pos, after, none⟩ ∧ (∀ f ∈ fl, dst ≠ some f.d) ∧ jO N dst = true ∧
  ∀ w1, Ext w w1 → Ext w0 w1 → Ef P L w1 op ty fun v w' => Ext w1 w' ∧ WF P ops Q w0 fl n (listed.setIfInBounds j true) N (cG dst v L) w'
theorem zd {fl : List Fl} (ok : pT P ops w0 fl listed N L) (hr : Region.ready .any ops (eO listed fl) = js) (hne : js ≠ []) (h : ∀ j ∈ js, IC P ops Q w0 fl n listed N L w j) : WF P ops Q w0 fl (n + 1) listed N L w := by
  have main : ∀ (k : Nat) (st : lG) (a : Act) (w1 : World), cW st = k → st.map (·.1) = fl → Fr N L a → Ext w w1 → Ext w0 w1 → yD w0 a w1 st → gX st → LW P ops Q w0 (n + 1 + cW st) (bc listed st) a w1 := by
    intro k
    induction k with
    | zero =>
      intro st a w1 hk hst ha hx hx0 hh hap
      rw [hk]
      have hl := rh listed st hk
      rw [hst] at hl
      refine ⟨fun h0 => (hne (by grind)).elim, fun j hii => ?_⟩
      rw [hl, hr] at hii
      obtain ⟨hj, op, ty, dst, pos, after, hi, hdst, hd, h⟩ := h j hii
      unfold wpOp
      simp only [hi]
      rw [if_pos (by simp [Region.wanted])]
      refine .inl (h w1 hx hx0 a N ha _ _ _ _ _ _ ?_)
      rintro v w' ⟨he, hw⟩
      refine ⟨hx0.tr he, ?_⟩
      have := hw st (a.put dst v) w' hst (ha.oD hd v) (Ext.refl _) (hx0.tr he) (fun p hp u hu => ?_) hap
      · rw [hk, kN _ _ _ (fun p hp => hj _ (jz hst hp))] at this
        exact this
      obtain ⟨h1, h2, h3⟩ := hh p hp u hu
      have hz := he.size
      exact ⟨by rw [wS (hdst _ (jz hst hp))]; exact h1, (ok.runs _ (jz hst hp)).1 _ _ _ h2 he, fun b hb => by grind⟩
    | succ k ih =>
      intro st a w1 hk hst ha hx hx0 hh hap
      rw [hk]
      refine ⟨fun h0 => ?_, fun i hii => ?_⟩
      · obtain ⟨p, hp, hn⟩ := mj st Om
        have := xH ok hst hp hn
        grind
      rcases yU hst hii with ⟨p, hp, hn, rfl⟩ | ⟨_, hia⟩
      · have := LJ (n := n + 1) ok hst ha hx hx0 hh hap (fun st' a' w' hu => ih st' a' w' Om) hp hn
        grind
      rw [hr] at hia
      obtain ⟨hj, op, ty, dst, pos, after, hi, hdst, hd, h⟩ := h _ hia
      unfold wpOp
      simp only [hi]
      rw [if_pos (by simp [Region.wanted])]
      refine .inl (h w1 hx hx0 a N ha _ _ _ _ _ _ ?_)
      rintro v w' ⟨he, hw⟩
      refine ⟨hx0.tr he, ?_⟩
      have := hw st (a.put dst v) w' hst (ha.oD hd v) (Ext.refl _) (hx0.tr he) (fun p hp u hu => ?_) hap
      · rw [hk, kN _ _ _ (fun p hp => hj _ (jz hst hp))] at this
        grind
      obtain ⟨h1, h2, h3⟩ := hh p hp u hu
      have hz := he.size
      exact ⟨by rw [wS (hdst _ (jz hst hp))]; exact h1, (ok.runs _ (jz hst hp)).1 _ _ _ h2 he, fun b hb => by grind⟩
  exact fun st a w1 hst ha hx hx0 hh hap => main _ st a w1 rfl hst ha hx hx0 hh hap
theorem DE {fl : List Fl} (ok : pT P ops w0 fl listed N L) (hr : Region.ready .any ops (eO listed fl) = [j]) (hj : ∀ f ∈ fl, f.i ≠ j)
  (hi : ops[j]? = some ⟨dst, op, ty, pos, after, none⟩) (hdst : ∀ f ∈ fl, dst ≠ some f.d) (hd : jO N dst = true)
  (h : ∀ w1, Ext w w1 → Ext w0 w1 → Ef P L w1 op ty fun v w' => Ext w1 w' ∧ WF P ops Q w0 fl n (listed.setIfInBounds j true) N (cG dst v L) w') : WF P ops Q w0 fl (n + 1) listed N L w :=
 zd ok hr (by simp) fun k hk => by rw [List.mem_singleton] at hk; subst hk; exact ⟨hj, _, _, _, _, _, hi, hdst, hd, h⟩
theorem PV {fl : List Fl} (ok : pT P ops w0 fl listed N L) (hr : Region.ready .any ops (eO listed fl) = [i, j]) (hi : IC P ops Q w0 fl n listed N L w i) (hj : IC P ops Q w0 fl n listed N L w j) : WF P ops Q w0 fl (n + 1) listed N L w :=
 zd ok hr (by simp) fun k hk => by grind
def ou : lG → List (Nat × Value)
 | [] => []
 | (f, some v) :: st => (f.d, v) :: ou st
 | (_, none) :: st => ou st
theorem tf {a : Act} (ha : Fr N L a) : ∀ (st : lG), (∀ p ∈ st, ∀ v, p.2 = some v → a.tmps[p.1.d]? = some v) → Fr N (ou st ++ L) a
  | [], _ => ha
  | (f, none) :: st, h => tf ha st fun p hp => h p (List.mem_cons_of_mem _ hp)
  | (f, some v) :: st, h => by
    have ih := tf ha st fun p hp => h p (List.mem_cons_of_mem _ hp);refine ⟨ih.size, ih.defers, fun t u hu => ?_⟩;simp only [ou, List.cons_append] at hu;unfold look at hu
    cases e : Nat.beq f.d t with
    | true =>
      simp only [e, cond_true, Option.some.injEq] at hu
      subst hu
      rw [← Nat.eq_of_beq_eq_true e]
      exact h _ List.mem_cons_self v rfl
    | false =>
      simp only [e, cond_false] at hu
      exact ih.has t u hu
theorem xj {fl : List Fl} (ok : pT P ops w0 fl listed N L) (hr : ∀ f ∈ fl, ∀ j ∈ Region.ready .any ops (eO listed fl), ∃ o, ops[j]? = some o ∧ ∃ e ∈ o.after, Region.binds .any e = true ∧ e.on = f.i)
    (h : ∀ (st : lG) (w1 : World), st.map (·.1) = fl → cW st = 0 → Ext w w1 → (∀ p ∈ st, ∀ v, p.2 = some v → p.1.R v w1 ∧ ∀ b, rk v = some b → w0.heap.size ≤ b) → gX st → WN P ops Q w0 n (eO listed fl) N (ou st ++ L) w1) : WF P ops Q w0 fl n listed N L w := by
  have main : ∀ (k : Nat) (st : lG) (a : Act) (w1 : World), cW st = k → st.map (·.1) = fl → Fr N L a → Ext w w1 → Ext w0 w1 → yD w0 a w1 st → gX st → LW P ops Q w0 (n + cW st) (bc listed st) a w1 := by
    intro k
    induction k with
    | zero =>
      intro st a w1 hk hst ha hx hx0 hh hap
      have hl := rh listed st hk
      rw [hst] at hl
      rw [hk, hl]
      exact h st w1 hst hk hx (fun p hp v hv => ⟨(hh p hp v hv).2.1, fun b hb => ((hh p hp v hv).2.2 b hb).1⟩) hap a (tf ha st fun p hp v hv => (hh p hp v hv).1) hx0
    | succ k ih =>
      intro st a w1 hk hst ha hx hx0 hh hap
      rw [hk]
      obtain ⟨p, hp, hn⟩ := mj st Om
      have hpr := xH ok hst hp hn
      refine ⟨fun h0 => (by grind), fun i hii => ?_⟩
      rcases yU hst hii with ⟨q, hq, hn', rfl⟩ | ⟨hne, hia⟩
      · have := LJ (n := n) ok hst ha hx hx0 hh hap (fun st' a' w' hu => ih st' a' w' Om) hq hn'
        grind
      exfalso
      obtain ⟨o, ho, e, he, hb, heq⟩ := hr _ (jz hst hp) i hia
      obtain ⟨_, oj, hoj, hall⟩ := mem_ready.1 hii
      rw [ho] at hoj
      injection hoj with hoj
      subst hoj
      have h1 := hall e he hb
      have h2 := (mem_ready.1 hpr).1
      grind
  exact fun st a w1 hst ha hx hx0 hh hap => main _ st a w1 rfl hst ha hx hx0 hh hap
theorem dC {fl : List Fl} (hm : fl.length = m) (h : WF P ops Q w0 fl n listed N L w) : WN P ops Q w0 (n + m) listed N L w := by
  intro a ha hx0
  have hu : ∀ (fl : List Fl), cW (fl.map fun f => (f, none)) = fl.length ∧ bc listed (fl.map fun f => (f, none)) = listed ∧ gX (fl.map fun f => (f, none)) := by
    intro fl
    induction fl with
    | nil => exact Ls
    | cons f fl ih =>
      refine ⟨by simp [cW, ih.1]; omega, by simpa [bc] using ih.2.1, ?_, ih.2.2⟩
      grind
  have := h (fl.map fun f => (f, none)) a w (by simp [List.map_map, Function.comp_def]) ha (Ext.refl w) hx0 (fun p hp v hv => by
    grind) (hu fl).2.2
  grind
def JL (ops : Array Oper) (listed : Array Bool) (i : Nat) (is : List Nat) : Bool :=
 mT .any ops listed i && is.all fun k => !(k == i) && !((iy .any ops listed i).getD k false)
theorem NQ {fl : List Fl} (hi : ops[i]? = some oi) (hf : JL ops listed i (fl.map (·.i)) = true)
    (hy : ∀ a, Fr N L a → YieldsIf P ops (fun w' => Ext w0 w') oi v a) (hd : jO N oi.dst = true) (hdst : ∀ f ∈ fl, oi.dst ≠ some f.d) (h : WF P ops (jD Q) w0 fl n (listed.setIfInBounds i true) N (cG oi.dst v L) w) : WF P ops (jD Q) w0 fl (n + 1) listed N L w := by
  intro st a w1 hst ha hx hx0 hh hap;simp only [JL, Bool.and_eq_true] at hf;obtain ⟨hf, hfk⟩ := hf;unfold mT at hf;generalize iy .any ops listed i = D at hf hfk
  have hfk' : ∀ p ∈ st, p.1.i ≠ i ∧ D.getD p.1.i false = false := fun p hp => by grind
  simp only [rC, hi, Bool.and_eq_true, List.all_eq_true, List.mem_range, Bool.or_eq_true, beq_iff_eq] at hf;obtain ⟨⟨h1, h2⟩, h4⟩ := hf
  have key : ∀ j oj, ops[j]? = some oj → j ≠ i → listed.getD j true = false → cond (D.getD j false) (oj.after.any fun e => Region.binds .any e && (e.on == i || (D.getD e.on false && !listed.getD e.on true))) (oi.apart ops oj) = true := fun j oj hj hne hun => by grind
  have low : ∀ (st : lG) (k : Nat), (bc listed st).getD k true = false → listed.getD k true = false := by
    intro st
    induction st with
    | nil => intro k h; exact h
    | cons p st ih =>
      obtain ⟨f, o⟩ := p
      intro k hk
      simp only [bc] at hk
      split at hk
      · by_cases e : f.i = k
        · simp_all
        simp_all
      grind
  have same : ∀ (st : lG) (k : Nat), (∀ p ∈ st, p.1.i ≠ k) → (bc listed st).getD k true = listed.getD k true := by
    intro st
    induction st with
    | nil => intro k _; rfl
    | cons p st ih =>
      obtain ⟨f, o⟩ := p
      intro k hk
      have hk' := ih k (fun p hp => hk p (List.mem_cons_of_mem _ hp))
      simp only [bc]
      split
      · simp_all
      exact hk'
  rw [show n + 1 + cW st = (n + cW st) + 1 by omega];refine uR (fun j => D.getD j false) hi (Region.noSelect_spec h1) (fun c a w h => h) _ (bc listed st) a w1 hx0 (fun j oj hj hne hun hd => ?_) (fun j oj hj hne hun hd => ?_) (kP st (by simpa using h4) fun p hp _ => (hfk' p hp).1) (hy a ha) ?_
  · grind
  · grind
  rw [← kN _ _ _ fun p hp => (hfk' p hp).1]
  exact h st (a.put oi.dst v) w1 hst (ha.oD hd v) hx hx0 (fun p hp u hu => by
    obtain ⟨h5, h6, h7⟩ := hh p hp u hu
    exact ⟨by rw [wS (hdst _ (jz hst hp))]; exact h5, h6, h7⟩) hap
theorem av {p : Fl → Prop} : ∀ f ∈ ([] : List Fl), p f := fun _ h => by cases h
theorem aT {p : Fl → Prop} {f : Fl} {fl : List Fl} (h : p f) (h' : ∀ g ∈ fl, p g) : ∀ g ∈ f :: fl, p g := fun g hg => by grind
theorem aV (h : l.contains i = true) : i ∈ l := by simpa using h
section
variable {fl : List Fl} (i : Nat) {b : Bool}
theorem kJ (hi : ops[i]? = some ⟨dst, op, ty, pos, after, none⟩) (hf : JL ops listed i (fl.map (·.i)) = true) (h : Y P L w0 op ty v) (hd : jO N dst = true) (hdst : ∀ f ∈ fl, dst ≠ some f.d)
  (hr : WF P ops (jD Q) w0 fl n (listed.setIfInBounds i true) N (cG dst v L) w) : WF P ops (jD Q) w0 fl (n + 1) listed N L w :=
 NQ hi hf (fun a ha => .inl ⟨rfl, fun w' e => h a.eval (fun _ _ hx => ha.ev hx) w' e _ _ _ _⟩) hd hdst hr
end
section
variable {xs : List Operand} {c : Code}
theorem NY {fl : List Fl} (ok : pT P ops w0 fl listed N L) (hr : Region.ready .any ops (eO listed fl) = [j]) (hj : ∀ f ∈ fl, f.i ≠ j)
  (hi : ops[j]? = some ⟨dst, .call { callee := .value (.func f), args := xs.toArray, argTypes := ats }, ty, pos, after, none⟩) (hf : P.funcs[f]? = some fn) (hb : fn.body = some c) (hn : (fn.name == "runtime.NumGoroutine") = false) (hx : qe L xs = some vs) (hdst : ∀ f ∈ fl, dst ≠ some f.d) (hd : jO N dst = true)
  (h : ∀ w1, Ext w w1 → Ext w0 w1 → ∃ R : Ending → World → Prop, Calls P f vs.toArray w1 R ∧ ∀ e w', R e w' → ∃ v, e = .returned v ∧ Ext w1 w' ∧ WF P ops Q w0 fl n (listed.setIfInBounds j true) N (cG dst v L) w') : WF P ops Q w0 fl (n + 1) listed N L w :=
 DE ok hr hj hi hdst hd fun w1 h1 h2 => by obtain ⟨R, hc, hR⟩ := h w1 h1 h2;exact kU hf hb hn hx hc hR
end
def sD (ops : Array Oper) (l : Array Bool) (is : List Nat) : Bool :=
 is.all fun i => (Region.ready .any ops l).all fun j => match ops[j]? with | some o => o.after.any (fun e => Region.binds .any e && e.on == i) | none => false
theorem xn {fl : List Fl} {l : Array Bool} (h : sD ops l (fl.map (·.i)) = true) : ∀ f ∈ fl, ∀ j ∈ Region.ready .any ops l, ∃ o, ops[j]? = some o ∧ ∃ e ∈ o.after, Region.binds .any e = true ∧ e.on = f.i := by intro f hf j hj;simp only [sD, List.all_eq_true] at h;have := h f.i (List.mem_map.2 ⟨f, hf, rfl⟩) j hj;grind
theorem mK {st : lG} (h : cW st = 0) : ∀ p ∈ st, ∃ v, p.2 = some v := by
  intro p hp
  cases ho : p.2 with
  | some v => grind
  | none =>
    exfalso
    have : ∀ st : lG, (∃ p ∈ st, p.2 = none) → 0 < cW st := by
      intro st
      induction st with
      | nil => grind
      | cons q st ih =>
        rintro ⟨p, hp, hn⟩
        obtain ⟨f, o⟩ := q
        simp only [cW]
        rcases List.mem_cons.1 hp with rfl | hp
        · grind
        have := ih ⟨p, hp, hn⟩; omega
    grind
abbrev Cx (w0 : World) (f : Fl) (v : Value) (w1 : World) : Prop := f.R v w1 ∧ ∀ b, rk v = some b → w0.heap.size ≤ b
abbrev PN (v u : Value) : Prop := ∀ b, rk v = some b → rk u = some b → False
theorem ij {f : Fl} (ok : pT P ops w0 [f] listed N L) (hr : sD ops (eO listed [f]) [f.i] = true)
    (h : ∀ v w1, Ext w w1 → Cx w0 f v w1 → WN P ops Q w0 n (eO listed [f]) N ((f.d, v) :: L) w1) : WF P ops Q w0 [f] n listed N L w :=
  xj ok (xn hr) fun st w1 hst hu hx hR hap => by
    match st, hst, hu, hR, hap with
    | [(f', some v)], hst, hu, hR, hap =>
      simp only [List.map_cons, List.map_nil, List.cons.injEq, and_true] at hst
      subst hst
      exact h v w1 hx (hR _ List.mem_cons_self v rfl)
    | [(f', none)], hst, hu, _, _ => simp [cW] at hu
theorem jf {f g : Fl} (ok : pT P ops w0 [f, g] listed N L) (hr : sD ops (eO listed [f, g]) [f.i, g.i] = true)
    (h : ∀ v u w1, Ext w w1 → Cx w0 f v w1 → Cx w0 g u w1 → PN v u → WN P ops Q w0 n (eO listed [f, g]) N ((f.d, v) :: (g.d, u) :: L) w1) : WF P ops Q w0 [f, g] n listed N L w :=
  xj ok (xn hr) fun st w1 hst hu hx hR hap => by
    match st, hst, hu, hR, hap with
    | [(f', o1), (g', o2)], hst, hu, hR, hap =>
      simp only [List.map_cons, List.map_nil, List.cons.injEq, and_true] at hst
      obtain ⟨rfl, rfl⟩ := hst
      obtain ⟨v, hv⟩ := mK hu (f', o1) (by simp)
      obtain ⟨u, hu'⟩ := mK hu (g', o2) (by simp)
      simp only at hv hu'
      subst hv; subst hu'
      exact h v u w1 hx (hR (f', some v) (by simp) v rfl) (hR (g', some u) (by simp) u rfl) (fun b h1 h2 => hap.1 (g', some u) (by simp) v u b rfl rfl h1 h2)
def rQ (i : Nat) (d : Tmp) (t : TypeId) (Z : Array Value) : Fl := ⟨i, d, fun v w => ∃ g, v = .pointer (some ⟨g, 0, none⟩) ∧ ao w g t Z⟩
theorem bM {d : Tmp} (hi : ops[i]? = some ⟨some d, .alloc t, ty, pos, after, none⟩) (hz : (P.info? t).map (fun i => i.zero.map (·.cells)) = some (some Z)) : Fl.PO P ops w0 L (rQ i d t Z) := by refine ⟨fun v w1 w2 ⟨g, hv, hB⟩ he => ⟨g, hv, hB.ext he⟩, _, _, _, _, hi, fun w1 _ => (dJ (w := w1) hz).mono ?_⟩;rintro v w2 ⟨g, rfl, hB, hg, he⟩;refine ⟨he, ⟨g, rfl, hB⟩, fun b hb => ?_⟩;simp only [rk, Option.some.injEq] at hb;subst hb;exact ⟨hg, hB.lt⟩
def UR (i : Nat) (d : Tmp) (e : TypeId) (n : Nat) (vs : List Value) : Fl := ⟨i, d, fun v w => ∃ g, v = .slice (some ⟨g, 0, none⟩) n n ∧ ao w g e vs.toArray⟩
theorem zN {d : Tmp} {z : Value} (hi : ops[i]? = some ⟨some d, .buildSlice t n ps, ty, pos, after, none⟩) (hu : P.underlying t = some (.slice e)) (hz : (P.info? e).map (fun i => (i.zero, i.size)) = some (some z, 1)) (h0 : z.cells.size = 1) (hp : Q9 L 0 ps.toList = some vs) (h1 : vs.all (·.oneCell') = true) (hn : vs.length = n) (hb : Nat.ble n 100 = true) : Fl.PO P ops w0 L (UR i d e n vs) := by refine ⟨fun v w1 w2 ⟨g, hv, hB⟩ he => ⟨g, hv, hB.ext he⟩, _, _, _, _, hi, fun w1 _ => (aF (w := w1) hu hz h0 hp h1 hn hb).mono ?_⟩;rintro v w2 ⟨g, rfl, hB, hg, he⟩;refine ⟨he, ⟨g, rfl, hB⟩, fun b hb => ?_⟩;simp only [rk, Option.some.injEq] at hb;subst hb;exact ⟨hg, hB.lt⟩
end
theorem fP (o s off o' : Nat) (hu : P.underlying t = some (.struct fs)) (hx : ev L x = some (.pointer (some ⟨b, off, none⟩)) := by exact rfl) (hf : (fs[i]?).map (fun f => (f.offset, f.type)) = some (o, ft) := by exact rfl) (hs : (P.info? ft).map (·.size) = some s := by kernel_rfl) (h0 : (s == 0) = false := by exact rfl) (ho : off + o = o' := by exact rfl) :
  Y P L w (.fieldAddr t x i) ty (.pointer (some ⟨b, o', none⟩)) := qv hx hu hf hs h0 ho
end Go.Proofs.YtgfafidlkldeaaaGreat
