/- What single operations leave: numbers, tests, lengths, addresses, loads. No conditions: plain lemmas of the model. What calls, new blocks, stores, copies and appends do. No conditions: plain lemmas of the model. -/
import Derived.Test.YtgfafidlkldeaaaGreatVc
import Derived.Laws.BitsAllLaws
import Derived.IntWalk
set_option linter.unusedVariables false
set_option linter.unusedSimpArgs false
namespace Go.Proofs.YtgfafidlkldeaaaGreat
section
open Go.RowKit
section
variable {P : Program} {L : List (Nat × Value)} {w : World} {ty t t' : TypeId} {x y : Operand} {k k' : IntKind} {a b c : Int}
theorem bj {v : Value} (hx : ev L x = some v) : Y P L w (.move x) ty v := fun ρ hρ w' _ _ _ _ _ => by simp [execOp, hρ _ _ hx]
theorem gC {v : Value} (hx : ev L x = some v) : Y P L w (.assign x) ty v := fun ρ hρ w' _ _ _ _ _ => by simp [execOp, hρ _ _ hx]
theorem nw {A : Oa} {n m : Nat} {e : TypeId} (hx : ev L x = some (.slice A n m)) (hu : P.underlying t = some (.slice e)) : Y P L w (.call { callee := .builtin .len, args := #[x], argTypes := #[t] }) ty (.int .i64 (n : Int)) := fun ρ hρ w' _ _ _ _ _ => by
 simp [execOp, resolve, invoke, builtin, hρ _ _ hx, Builtin.len_, run_underlying hu, goInt]
theorem zR {s : ByteArray} (hx : ev L x = some (.string s)) (hu : P.underlying t = some .string) : Y P L w (.call { callee := .builtin .len, args := #[x], argTypes := #[t] }) ty (.int .i64 (s.size : Int)) := fun ρ hρ w' _ _ _ _ _ => by
 simp [execOp, resolve, invoke, builtin, hρ _ _ hx, Builtin.len_, run_underlying hu, goInt]
theorem xY (hx : ev L x = some (.int k a)) (hy : ev L y = some (.int k' b)) {ts : Array TypeId} : Y P L w (.call { callee := .builtin .min, args := #[x, y], argTypes := ts }) ty (.int k (if b < a then b else a)) := fun ρ hρ w' _ _ _ _ _ => by
 simp [execOp, resolve, invoke, builtin, hρ _ _ hx, hρ _ _ hy, Builtin.min_, Builtin.min2]
/-! Tests. -/
theorem dU (hx : ev L x = some (.int k a)) (hy : ev L y = some (.int k b)) : Y P L w (.binOp .lss t x y t') ty (.bool (decide (a < b))) := fun ρ hρ w' _ _ _ _ _ => by
 simp [execOp, hρ _ _ hx, hρ _ _ hy, eqGuard, binOp, Op.intCmp]
theorem nt (hx : ev L x = some (.int k a)) (hy : ev L y = some (.int k b)) : Y P L w (.binOp .leq t x y t') ty (.bool (decide (a ≤ b))) := fun ρ hρ w' _ _ _ _ _ => by
 simp [execOp, hρ _ _ hx, hρ _ _ hy, eqGuard, binOp, Op.intCmp]
theorem fF (hx : ev L x = some (.int k a)) (hy : ev L y = some (.int k b)) : Y P L w (.binOp .gtr t x y t') ty (.bool (decide (b < a))) := fun ρ hρ w' _ _ _ _ _ => by
 simp [execOp, hρ _ _ hx, hρ _ _ hy, eqGuard, binOp, Op.intCmp]
theorem qu (hx : ev L x = some (.int k a)) (hy : ev L y = some (.int k b)) : Y P L w (.binOp .geq t x y t') ty (.bool (decide (b ≤ a))) := fun ρ hρ w' _ _ _ _ _ => by
 simp [execOp, hρ _ _ hx, hρ _ _ hy, eqGuard, binOp, Op.intCmp]
theorem GN (a b : Int) : (a == b) = decide (a = b) := by
 by_cases h : a = b <;> simp [h]
theorem EI (a b : Int) : (a != b) = decide (a ≠ b) := by
 by_cases h : a = b <;> simp [h]
theorem cA (hx : ev L x = some (.int k a)) (hy : ev L y = some (.int k b)) : Y P L w (.binOp .eql t x y t') ty (.bool (decide (a = b))) := fun ρ hρ w' _ _ _ _ _ => by
 simp [execOp, hρ _ _ hx, hρ _ _ hy, eqGuard, binOp, Op.intCmp, GN]
theorem jr (hx : ev L x = some (.int k a)) (hy : ev L y = some (.int k b)) : Y P L w (.binOp .neq t x y t') ty (.bool (decide (a ≠ b))) := fun ρ hρ w' _ _ _ _ _ => by
 simp only [execOp, hρ _ _ hx, hρ _ _ hy, eqGuard, binOp, Op.intCmp, EI]; simp
theorem kz {p : Bool} (hx : ev L x = some (.bool p)) : Y P L w (.unOp .not t x) ty (.bool (!p)) := fun ρ hρ w' _ _ _ _ _ => by
 simp [execOp, hρ _ _ hx, Op.unary]
theorem Y.as {op : Op} {u v : Value} (h : Y P L w op ty u) (e : u = v) : Y P L w op ty v := e ▸ h
/-! A test on which the walk parts. -/
section
variable {ops : Array Oper} {Q : Exit → Act → World → Prop} {rest : List Oper} {N : Nd} {d : Tmp} {dst : Option Tmp} {pos : String} {after : Array Edge} {op : Op} {p : Prop} [Decidable p] {b : Bool}
theorem ic (h : Y P L w op ty (.bool b)) (hd : Nat.ble (d + 1) N.n = true) (ht : b = true → WL P ops Q rest N ((d, .bool true) :: L) w) (hf : b = false → WL P ops Q rest N ((d, .bool false) :: L) w) : WL P ops Q (⟨some d, op, ty, pos, after, none⟩ :: rest) N L w := by
 cases b
 ·exact Eo h hd (hf rfl)
 ·exact Eo h hd (ht rfl)
theorem qQ {j : Nat} {b' : Bool} (t : Tmp) (hj : (ops[j]?).bind (·.dst) = some t) (hg : look L t = some (.bool b')) (h : Y P L w op ty (.bool b)) (hd : Nat.ble (d + 1) N.n = true) (ht : b = true → WL P ops Q rest N ((d, .bool true) :: L) w) (hf : b = false → WL P ops Q rest N ((d, .bool false) :: L) w) : WL P ops Q (⟨some d, op, ty, pos, after, some (j, b')⟩ :: rest) N L w := by
 cases b
 ·exact yp t hj hg h hd (hf rfl)
 ·exact yp t hj hg h hd (ht rfl)
theorem bH (h : Y P L w op ty (.bool (decide p))) (hd : Nat.ble (d + 1) N.n = true) (ht : p → WL P ops Q rest N ((d, .bool true) :: L) w) (hf : ¬ p → WL P ops Q rest N ((d, .bool false) :: L) w) : WL P ops Q (⟨some d, op, ty, pos, after, none⟩ :: rest) N L w :=
 ic h hd (fun e => ht (of_decide_eq_true e)) (fun e => hf (of_decide_eq_false e))
theorem aG {j : Nat} {b' : Bool} (t : Tmp) (hj : (ops[j]?).bind (·.dst) = some t) (hg : look L t = some (.bool b')) (h : Y P L w op ty (.bool (decide p))) (hd : Nat.ble (d + 1) N.n = true) (ht : p → WL P ops Q rest N ((d, .bool true) :: L) w) (hf : ¬ p → WL P ops Q rest N ((d, .bool false) :: L) w) : WL P ops Q (⟨some d, op, ty, pos, after, some (j, b')⟩ :: rest) N L w :=
 qQ t hj hg h hd (fun e => ht (of_decide_eq_true e)) (fun e => hf (of_decide_eq_false e))
end
/-! Numbers. -/
theorem aN (hx : ev L x = some (.int k a)) (hy : ev L y = some (.int k b)) (h : k.wrap (a + b) = c) : Y P L w (.binOp .add t x y t') ty (.int k c) := fun ρ hρ w' _ _ _ _ _ => by
 simp [execOp, hρ _ _ hx, hρ _ _ hy, eqGuard, binOp, Op.intArith, h]
theorem eK (hx : ev L x = some (.int k a)) (hy : ev L y = some (.int k b)) (h : k.wrap (a - b) = c) : Y P L w (.binOp .sub t x y t') ty (.int k c) := fun ρ hρ w' _ _ _ _ _ => by
 simp [execOp, hρ _ _ hx, hρ _ _ hy, eqGuard, binOp, Op.intArith, h]
theorem cz (hx : ev L x = some (.int k a)) (hy : ev L y = some (.int k b)) (h : k.wrap (a * b) = c) : Y P L w (.binOp .mul t x y t') ty (.int k c) := fun ρ hρ w' _ _ _ _ _ => by
 simp [execOp, hρ _ _ hx, hρ _ _ hy, eqGuard, binOp, Op.intArith, h]
theorem cY (hx : ev L x = some (.int k a)) (hy : ev L y = some (.int k b)) (h0 : b ≠ 0) (h : k.wrap (a.tdiv b) = c) : Y P L w (.binOp .quo t x y t') ty (.int k c) := fun ρ hρ w' _ _ _ _ _ => by
 simp [execOp, hρ _ _ hx, hρ _ _ hy, eqGuard, binOp, Op.intDiv, h0, h]
theorem cy (hx : ev L x = some (.int k a)) (hy : ev L y = some (.int k b)) (h0 : b ≠ 0) (h : a.tmod b = c) : Y P L w (.binOp .rem t x y t') ty (.int k c) := fun ρ hρ w' _ _ _ _ _ => by
 simp [execOp, hρ _ _ hx, hρ _ _ hy, eqGuard, binOp, Op.intDiv, h0, h]
theorem eP (hx : ev L x = some (.int k a)) (hy : ev L y = some (.int k' b)) (h0 : 0 ≤ b) (h : k.wrap (a * 2 ^ min b.toNat k.bits) = c) : Y P L w (.binOp .shl t x y t') ty (.int k c) := fun ρ hρ w' _ _ _ _ _ => by
 simp [execOp, hρ _ _ hx, hρ _ _ hy, eqGuard, binOp, shift_shl_any _ _ _ _ h0, h]
theorem bY (hx : ev L x = some (.int k a)) (hy : ev L y = some (.int k' b)) (h0 : 0 ≤ b) (h : a / 2 ^ min b.toNat k.bits = c) : Y P L w (.binOp .shr t x y t') ty (.int k c) := fun ρ hρ w' _ _ _ _ _ => by
 simp [execOp, hρ _ _ hx, hρ _ _ hy, eqGuard, binOp, shift_shr_any _ _ _ _ h0, h]
theorem cD (hx : ev L x = some (.int k a)) (hy : ev L y = some (.int k b)) (h : bits .and k a b = c) : Y P L w (.binOp .and t x y t') ty (.int k c) := fun ρ hρ w' _ _ _ _ _ => by
 subst h; simp [execOp, hρ _ _ hx, hρ _ _ hy, eqGuard, binOp, Op.intBits, bits]
theorem jk (hx : ev L x = some (.int k a)) (hy : ev L y = some (.int k b)) (h : bits .or k a b = c) : Y P L w (.binOp .or t x y t') ty (.int k c) := fun ρ hρ w' _ _ _ _ _ => by
 subst h; simp [execOp, hρ _ _ hx, hρ _ _ hy, eqGuard, binOp, Op.intBits, bits]
theorem bJ (hx : ev L x = some (.int k a)) (hy : ev L y = some (.int k b)) (h : bits .xor k a b = c) : Y P L w (.binOp .xor t x y t') ty (.int k c) := fun ρ hρ w' _ _ _ _ _ => by
 subst h; simp [execOp, hρ _ _ hx, hρ _ _ hy, eqGuard, binOp, Op.intBits, bits]
theorem vg (hx : ev L x = some (.int k a)) (hy : ev L y = some (.int k b)) (h : bits .andNot k a b = c) : Y P L w (.binOp .andNot t x y t') ty (.int k c) := fun ρ hρ w' _ _ _ _ _ => by
 subst h; simp [execOp, hρ _ _ hx, hρ _ _ hy, eqGuard, binOp, Op.intBits, bits]
theorem Be (hx : ev L x = some (.int k a)) (h : k.wrap (0 - a) = c) : Y P L w (.unOp .neg t x) ty (.int k c) := fun ρ hρ w' _ _ _ _ _ => by
 subst h; simp only [execOp, hρ _ _ hx, Op.unary, Op.intArith]; simp
theorem BH (hx : ev L x = some (.int k a)) (hs : k.signed = false) (h : bits .xor k k.max a = c) : Y P L w (.unOp .xor t x) ty (.int k c) := fun ρ hρ w' _ _ _ _ _ => by
 subst h; simp only [execOp, hρ _ _ hx, Op.unary, Op.intBits, bits, hs]; simp
theorem bg (hx : ev L x = some (.int k a)) {k2 : IntKind} {d : TypeDesc} (hs : P.underlying t = some d) (hu : P.underlying t' = some (.int k2)) (h : k2.wrap a = c) : Y P L w (.convert t t' x) ty (.int k2 c) := fun ρ hρ w' _ _ _ _ _ => by
 subst h
 have hc : (convert t t' (.int k a)).run P w' = .ok (.int k2 (k2.wrap a)) w' := by
  unfold convert
  simp only [Sem.run_bind, run_underlying hs, run_underlying hu, Result.andThen_ok]
  cases d <;> rfl
 simp [execOp, hρ _ _ hx, hc]
theorem bN {p q : Nat} (hp : p < 256) (hq : q < 256) : bits .and .u8 p q = ((p &&& q : Nat) : Int) ∧ bits .or .u8 p q = ((p ||| q : Nat) : Int) ∧ bits .xor .u8 p q = ((p ^^^ q : Nat) : Int) :=
 ⟨by have := u8_and p q Om Om Om Om; simpa using this, by have := u8_or p q Om Om Om Om; simpa using this, by have := u8_xor p q Om Om Om Om; simpa using this⟩
theorem cf {p q : Nat} (hp : p < 18446744073709551616) (hq : q < 18446744073709551616) : bits .and .u64 p q = ((p &&& q : Nat) : Int) ∧ bits .or .u64 p q = ((p ||| q : Nat) : Int) ∧ bits .xor .u64 p q = ((p ^^^ q : Nat) : Int) :=
 ⟨by have := u64_and p q Om Om Om Om; simpa using this, by have := u64_or p q Om Om Om Om; simpa using this, by have := u64_xor p q Om Om Om Om; simpa using this⟩
/-! Addresses. -/
theorem bo {e : TypeId} {n : Nat} (h : (P.info? e).map (·.size) = some n) (w : World) : (sizeOf e).run P w = .ok n w := by
 cases hi : P.info? e with
 | none => simp [hi] at h
 | some i => simp [hi] at h; simp [sizeOf, typeInfo, hi, h]
theorem Ho {A : Addr} {n m j : Nat} {e : TypeId} {s : Nat} (hx : ev L x = some (.slice (some A) n m)) (hy : ev L y = some (.int k a)) (hu : P.underlying t = some (.slice e)) (hs : (P.info? e).map (·.size) = some s) (ha : a = (j : Int)) (hj : j < n) :
  Y P L w (.indexAddr t x y) ty (.pointer (some (A.add (j * s)))) := fun ρ hρ w' _ _ _ _ _ => by
 subst ha
 simp [execOp, hρ _ _ hx, hρ _ _ hy, Instr.indexAt, asIntOf, run_underlying hu, bo hs, hj]
theorem aD {b' off n m j : Nat} {e : TypeId} (hx : ev L x = some (.slice (some ⟨b', off, none⟩) n m)) (hy : ev L y = some (.int k a)) (hu : P.underlying t = some (.slice e)) (hs : (P.info? e).map (·.size) = some 1) (ha : a = (j : Int)) (hj : j < n) :
  Y P L w (.indexAddr t x y) ty (.pointer (some ⟨b', off + j, none⟩)) := by
 have h := Ho (w := w) (ty := ty) hx hy hu hs ha hj
 rw [add_lit, Nat.mul_one] at h
 exact h
theorem It {A : Addr} {n j : Nat} {e : TypeId} {s : Nat} (hx : ev L x = some (.pointer (some A))) (hy : ev L y = some (.int k a)) (hu : P.underlying t = some (.array n e)) (hs : (P.info? e).map (·.size) = some s) (ha : a = (j : Int)) (hj : j < n) :
  Y P L w (.indexAddr t x y) ty (.pointer (some (A.add (j * s)))) := fun ρ hρ w' _ _ _ _ _ => by
 subst ha
 simp [execOp, hρ _ _ hx, hρ _ _ hy, Instr.indexAt, asIntOf, run_underlying hu, bo hs, hj, Instr.sureAddr]
theorem bG {b' off n j : Nat} {e : TypeId} (hx : ev L x = some (.pointer (some ⟨b', off, none⟩))) (hy : ev L y = some (.int k a)) (hu : P.underlying t = some (.array n e)) (hs : (P.info? e).map (·.size) = some 1) (ha : a = (j : Int)) (hj : j < n) :
  Y P L w (.indexAddr t x y) ty (.pointer (some ⟨b', off + j, none⟩)) := by
 have h := It (w := w) (ty := ty) hx hy hu hs ha hj
 rw [add_lit, Nat.mul_one] at h
 exact h
theorem mn {n j : Nat} {e : TypeId} {cs : Array Value} {v : Value} {d : TypeDesc} (hx : ev L x = some (.agg cs)) (hy : ev L y = some (.int k a)) (hu : P.underlying t = some (.array n e)) (he : P.underlying e = some d) (hd : (match d with | .struct _ | .array _ _ => false | _ => true) = true)
  (hs : (P.info? e).map (·.size) = some 1) (ha : a = (j : Int)) (hj : j < n) (hv : cs[j]? = some v) : Y P L w (.index t x y) ty v := fun ρ hρ w' _ _ _ _ _ => by
 subst ha
 have hagg : (isAgg e).run P w' = .ok false w' := by
  unfold isAgg
  rw [Sem.run_bind, run_underlying he w']
  cases d <;> first | rfl | (simp at hd)
 simp [execOp, hρ _ _ hx, hρ _ _ hy, Instr.index, asIntOf, run_underlying hu, bo hs, hj, part, hagg, hv]
theorem ah {ad : Addr} {v : Value} {d : TypeDesc} (hx : ev L x = some (.pointer (some ad))) (hu : P.underlying t = some d) (hd : (match d with | .struct _ | .array _ _ => false | _ => true) = true) (hc : w.cell? ad = some v) : Y P L w (.load t x) ty v := fun ρ hρ w' e _ _ _ _ => by
 have hc' : w'.cell? ad = some v := (e.cell (dQ hc)).trans hc
 have hagg : (isAgg t).run P w' = .ok false w' := by
  unfold isAgg
  rw [Sem.run_bind, run_underlying hu w']
  cases d <;> first | rfl | (simp at hd)
 simp [execOp, hρ _ _ hx, Instr.loadAt, Instr.sureAddr, loadVar, hagg, hc']
theorem aV {g : Nat} {e : TypeId} {cs : Array Value} {d : TypeDesc} (hx : ev L x = some (.pointer (some ⟨g, 0, none⟩))) (hu : P.underlying t = some d) (hd : (match d with | .struct _ | .array _ _ => true | _ => false) = true) (hs : (P.info? t).map (·.size) = some cs.size)
  (hg : ao w g e cs) : Y P L w (.load t x) ty (.agg cs) := fun ρ hρ w' ex _ _ _ _ => by
 have hg' : ao w' g e cs := hg.kept ex
 have h := run_loadVar_row (P := P) w' g e t cs (0, 0) d hg' hu hd hs
 simp [execOp, hρ _ _ hx, Instr.loadAt, Instr.sureAddr, h]
theorem du {vs : Array Value} {v : Value} {i : Nat} (hx : ev L x = some (.tuple vs)) (hv : vs.toList[i]? = some v) : Y P L w (.extract x i) ty v := fun ρ hρ w' _ _ _ _ _ => by
 have hv' : vs[i]? = some v := by simpa using hv
 simp [execOp, hρ _ _ hx, Instr.extract, hv']
theorem Jz {ad : Addr} (hx : ev L x = some (.pointer (some ad))) : Y P L w (.nilCheck x) ty (.pointer (some ad)) := fun ρ hρ w' _ _ _ _ _ => by
 simp [execOp, hρ _ _ hx]
/-! Cuts of slices. -/
def kK (A : Oa) (c l s : Nat) : Option Addr := if c = l then A else A.map (·.add (l * s))
theorem ph {A : Oa} {n c' j s : Nat} {e : TypeId} (hx : ev L x = some (.slice A n c')) (hy : ev L y = some (.int k a)) (hu : P.underlying t = some (.slice e)) (hs : (P.info? e).map (·.size) = some s) (ha : a = (j : Int)) (hj : j ≤ n) :
  Y P L w (.slice t x (some y) none none) ty (.slice (kK A c' j s) (n - j) (c' - j)) := fun ρ hρ w' _ _ _ _ _ => by
 subst ha
 have hb : ((Instr.sliceBounds true n c' (some (.int k j)) none none).run P w') = .ok (j, n, c') w' := by
  simp [Instr.sliceBounds, Instr.sliceBound, asIntOf, hj]
 simp [execOp, hρ _ _ hx, hρ _ _ hy, Instr.sliceAt, Instr.slice, run_underlying hu, hb, bo hs, kK]
theorem pn {A : Oa} {n c' j s : Nat} {e : TypeId} (hx : ev L x = some (.slice A n c')) (hy : ev L y = some (.int k a)) (hu : P.underlying t = some (.slice e)) (hs : (P.info? e).map (·.size) = some s) (ha : a = (j : Int)) (hj : j ≤ c') :
  Y P L w (.slice t x none (some y) none) ty (.slice A j c') := fun ρ hρ w' _ _ _ _ _ => by
 subst ha
 have hb : ((Instr.sliceBounds true n c' none (some (.int k j)) none).run P w') = .ok (0, j, c') w' := by
  simp [Instr.sliceBounds, Instr.sliceBound, asIntOf, hj]
 have hA : (if c' = 0 then A else A.map (·.add (0 * s))) = A := by
  split
  ·rfl
  ·cases A <;> simp [Addr.add]
 simp [execOp, hρ _ _ hx, hρ _ _ hy, Instr.sliceAt, Instr.slice, run_underlying hu, hb, bo hs]
 cases A <;> simp [Addr.add]
theorem xI {z : Operand} {A : Oa} {n c' j h s : Nat} {k2 : IntKind} {e : TypeId} (hx : ev L x = some (.slice A n c')) (hy : ev L y = some (.int k a)) (hz : ev L z = some (.int k2 b)) (hu : P.underlying t = some (.slice e)) (hs : (P.info? e).map (·.size) = some s) (ha : a = (j : Int)) (hb' : b = (h : Int)) (hj : j ≤ h) (hh : h ≤ c') :
  Y P L w (.slice t x (some y) (some z) none) ty (.slice (kK A c' j s) (h - j) (c' - j)) := fun ρ hρ w' _ _ _ _ _ => by
 subst ha; subst hb'
 have hb : ((Instr.sliceBounds true n c' (some (.int k j)) (some (.int k2 h)) none).run P w') = .ok (j, h, c') w' := by
  simp [Instr.sliceBounds, Instr.sliceBound, asIntOf, hj, hh]
 simp [execOp, hρ _ _ hx, hρ _ _ hy, hρ _ _ hz, Instr.sliceAt, Instr.slice, run_underlying hu, hb, bo hs, kK]
theorem uQ {A : Addr} {n s : Nat} {e : TypeId} (hx : ev L x = some (.pointer (some A))) (hu : P.underlying t = some (.array n e)) (hs : (P.info? e).map (·.size) = some s) : Y P L w (.slice t x none none none) ty (.slice (some A) n n) := fun ρ hρ w' _ _ _ _ _ => by
 simp [execOp, hρ _ _ hx, Instr.sliceAt, Instr.sureAddr, Instr.sliceBounds, run_underlying hu, bo hs, Addr.add]
theorem Bs.kK {A : Oa} {n c : Nat} {xs : Lb} (h : Bs w A n xs) {j : Nat} (hj : j ≤ n) (hc : n ≤ c) : Bs w (kK A c j 1) (n - j) (xs.drop j) := by
 unfold Go.Proofs.YtgfafidlkldeaaaGreat.kK
 rw [Nat.mul_one]
 exact h.cut hj hc
end
end
section
open Go.RowKit
/-! Facts that live on: '.ext'. -/
theorem _root_.Go.RowKit.Below.ext {a b c : World} (h : Ext a b) (k : Ext b c) : Ext a c := h.tr k
section
variable {w w' : World}
theorem Bs.ext {A : Oa} {n : Nat} {xs : Lb} (h : Bs w A n xs) (k : Ext w w') : Bs w' A n xs := h.below k
theorem sN.ext {A : Oa} {n : Nat} {xss : List (List UInt8)} (h : sN w A n xss) (k : Ext w w') : sN w' A n xss := h.below k
theorem ao.ext {g : Nat} {t : TypeId} {cs : Array Value} (h : ao w g t cs) (k : Ext w w') : ao w' g t cs := h.kept k
theorem At.ext {A : Oa} {xs : List Value} (h : At w A xs) (k : Ext w w') : At w' A xs := h.below k
def Row (w : World) (base : Nat) (e : TypeId) (A : Oa) (n c : Nat) (xs : List Value) : Prop := w.ownsRow base e 1 (.slice A n c) n xs
theorem Row.ext {base : Nat} {e : TypeId} {A : Oa} {n c : Nat} {xs : List Value} (h : Row w base e A n c xs) (k : Ext w w') : Row w' base e A n c xs :=
 World.ownsRow.kept (row := none) h ⟨k.os, k.tape, k.output, k.size, fun j hj _ => k.block j hj⟩ (by cases A with | none => exact .inl rfl | some a => exact .inr (by simp [Value.ownBlock]))
theorem Row.at {base : Nat} {e : TypeId} {A : Oa} {n c : Nat} {xs : List Value} (h : Row w base e A n c xs) : At w A xs := Cn h
theorem Row.len {base : Nat} {e : TypeId} {A : Oa} {n c : Nat} {xs : List Value} (h : Row w base e A n c xs) : xs.length = n := by have := h.1; simpa using this
theorem Row.lower {base : Nat} {e : TypeId} {A : Oa} {n c : Nat} {xs : List Value} (h : Row w base e A n c xs) {b : Nat} (hb : b ≤ base) : Row w b e A n c xs := by
 refine ⟨h.1, ?_⟩
 rcases h.2 with h | ⟨g, cap, cur, hv, hg, r⟩
 ·exact .inl h
 ·exact .inr ⟨g, cap, cur, hv, by omega, r⟩
theorem Row.empty (w : World) (base : Nat) (e : TypeId) : Row w base e none 0 0 [] := World.ownsRow_nil _ _ _ _
theorem Row.new {base : Nat} {e : TypeId} {g n : Nat} {cs : Array Value} (h : ao w g e cs) (hb : base ≤ g) (hn : cs.size = n) (hm : n ≤ maxLen) : Row w base e (some ⟨g, 0, none⟩) n n cs.toList :=
 ⟨by simp [hn], .inr ⟨g, n, cs, rfl, hb, h, Nat.le_refl _, hm, by omega, by rw [List.take_of_length_le (by simp [hn])]⟩⟩
end
section
variable {P : Program} {ops : Array Oper} {Q : Exit → Act → World → Prop} {rest : List Oper} {N : Nd} {L : List (Nat × Value)} {w : World} {ty t e : TypeId} {x y : Operand} {dst : Option Tmp} {pos : String} {after : Array Edge}
theorem FO {z : Operand} {v : Value} (hx : ev L z = some (.bool true)) (hy : ev L x = some v) : Y P L w (.pick z x y) ty v := fun ρ hρ w' _ _ _ _ _ => by
 simp [execOp, hρ _ _ hx, hρ _ _ hy, asBool]
theorem FP {z : Operand} {u : Value} (hx : ev L z = some (.bool false)) (hy : ev L y = some u) : Y P L w (.pick z x y) ty u := fun ρ hρ w' _ _ _ _ _ => by
 simp [execOp, hρ _ _ hx, hρ _ _ hy, asBool]
/-! Calls. -/
section
variable {f : FuncId} {xs : List Operand} {ats : Array TypeId} {vs : List Value} {R : Ending → World → Prop} {fn : Func} {c : Code}
theorem gG {G : Value → World → Prop} (hf : P.funcs[f]? = some fn) (hb : fn.body = some c) (hn : (fn.name == "runtime.NumGoroutine") = false) (hx : lI L xs = some vs) (h : Calls P f vs.toArray w R) (hr : ∀ e w', R e w' → ∃ v, e = .returned v ∧ G v w') :
  Ef P L w (.call { callee := .value (.func f), args := xs.toArray, argTypes := ats }) ty G := og hf hb hn hx h hr
theorem EV (hf : P.funcs[f]? = some fn) (hb : fn.body = some c) (hn : (fn.name == "runtime.NumGoroutine") = false) (hx : lI L xs = some vs) (h : Calls P f vs.toArray w R) (hd : gH N dst = true)
  (hr : ∀ e w', R e w' → ∃ v, e = .returned v ∧ WL P ops Q rest N (bL dst v L) w') : WL P ops Q (⟨dst, .call { callee := .value (.func f), args := xs.toArray, argTypes := ats }, ty, pos, after, none⟩ :: rest) N L w :=
 af (og (Φ := fun v w' => WL P ops Q rest N (bL dst v L) w') hf hb hn hx h hr) hd fun _ _ h => h
theorem fE {j : Nat} {b : Bool} (t : Tmp) (hj : (ops[j]?).bind (·.dst) = some t) (ht : look L t = some (.bool b)) (hf : P.funcs[f]? = some fn) (hb : fn.body = some c) (hn : (fn.name == "runtime.NumGoroutine") = false) (hx : lI L xs = some vs) (h : Calls P f vs.toArray w R) (hd : gH N dst = true)
  (hr : ∀ e w', R e w' → ∃ v, e = .returned v ∧ WL P ops Q rest N (bL dst v L) w') : WL P ops Q (⟨dst, .call { callee := .value (.func f), args := xs.toArray, argTypes := ats }, ty, pos, after, some (j, b)⟩ :: rest) N L w :=
 KD t hj ht (og (Φ := fun v w' => WL P ops Q rest N (bL dst v L) w') hf hb hn hx h hr) hd fun _ _ h => h
theorem dG {n : Nat} {listed : Array Bool} {i : Nat} (hi : ops[i]? = some ⟨dst, .call { callee := .value (.func f), args := xs.toArray, argTypes := ats }, ty, pos, after, none⟩) (hf : P.funcs[f]? = some fn) (hb : fn.body = some c) (hn : (fn.name == "runtime.NumGoroutine") = false) (hx : lI L xs = some vs) (h : Calls P f vs.toArray w R) (hd : gH N dst = true)
  (hr : ∀ e w', R e w' → ∃ v, e = .returned v ∧ (turns ops i = true ∨ Ext w w') ∧ WM P ops Q n (listed.setIfInBounds i true) N (bL dst v L) w') : cx P ops Q n listed i N L w :=
 aO hi (og (Φ := fun v w' => (turns ops i = true ∨ Ext w w') ∧ WM P ops Q n (listed.setIfInBounds i true) N (bL dst v L) w') hf hb hn hx h hr) hd fun _ _ h => h
end
theorem Ef.run {op : Op} {Φ : Value → World → Prop} (h : ∀ ρ : Operand → Value, (∀ x u, ev L x = some u → ρ x = u) → ∃ v w', Φ v w' ∧ ∀ dst pos after guard, (execOp ρ ⟨dst, op, ty, pos, after, guard⟩).run P w = .ok (.value v) w') : Ef P L w op ty Φ := by
 intro a N ha dst pos after guard K Q hK
 obtain ⟨v, w', hΦ, hr⟩ := h a.eval (fun _ _ hx => ha.ev hx)
 unfold Oper.wp
 rw [hr]
 exact hK v w' hΦ
theorem Ef.JA {op : Op} {Φ : World → Prop} (h : ∀ ρ : Operand → Value, (∀ x u, ev L x = some u → ρ x = u) → ∃ w', Φ w' ∧ ∀ dst pos after guard, (execOp ρ ⟨dst, op, ty, pos, after, guard⟩).run P w = .ok .skip w') : Ef P L w op ty fun v w' => v = undef ∧ Φ w' := by
 intro a N ha dst pos after guard K Q hK
 obtain ⟨w', hΦ, hr⟩ := h a.eval (fun _ _ hx => ha.ev hx)
 unfold Oper.wp
 rw [hr]
 exact hK _ w' ⟨rfl, hΦ⟩
/-! New blocks. -/
def AD (w : World) (t : TypeId) (cs : Array Value) (v : Value) (w' : World) : Prop := ∃ g, v = .pointer (some ⟨g, 0, none⟩) ∧ ao w' g t cs ∧ w.heap.size ≤ g ∧ Ext w w'
theorem nc {v : Value} {cs : Array Value} (hx : ev L x = some v) (hc : v.cells = cs) : Ef P L w (.box t x) ty (AD w t cs) := Ef.run fun ρ hρ =>
 ⟨_, w.alloc (.cells cs t), ⟨w.heap.size, rfl, ao.new w t cs, Nat.le_refl _, Ext.alloc w _⟩, fun _ _ _ _ => by subst hc; simp [execOp, hρ _ _ hx, Instr.box, newVar, newRow]⟩
theorem dL {Z : Array Value} (hz : (P.info? t).map (fun i => i.zero.map (·.cells)) = some (some Z)) : Ef P L w (.alloc t) ty (AD w t Z) := Ef.run fun ρ hρ => by
  cases hi : P.info? t with
  | none => simp [hi] at hz
  | some i =>
    cases hzz : i.zero with
    | none => simp [hi, hzz] at hz
    | some z =>
      simp only [hi, hzz, Option.map_some, Option.some.injEq] at hz
      subst hz
      exact ⟨_, w.alloc (.cells z.cells t), ⟨w.heap.size, rfl, ao.new w t _, Nat.le_refl _, Ext.alloc w _⟩, fun _ _ _ _ => by simp [execOp, Instr.alloc, zeroValue, typeInfo, hi, hzz, newVar, newRow]⟩
def JC (L : List (Nat × Value)) : Nat → List (Nat × Operand) → Option (List Value)
  | _, [] => some []
  | i, p :: ps => cond (Nat.beq p.1 i) (match ev L p.2, JC L (i + 1) ps with
    | some v, some vs => some (v :: vs)
    | _, _ => none) none
theorem jX {v : Value} (h : v.oneCell' = true) : v.cells = #[v] := by cases v <;> first | rfl | (simp [Value.oneCell'] at h)
theorem qG (ρ : Operand → Value) (hρ : ∀ x u, ev L x = some u → ρ x = u) : ∀ (ps : List (Nat × Operand)) (i : Nat) (vs pre post : List Value), JC L i ps = some vs → (∀ v ∈ vs, v.oneCell' = true) → pre.length = i → post.length = vs.length →
    Instr.fill (fun i => some (i * 1, 1)) (pre ++ post).toArray (ps.map fun p => (p.1, ρ p.2)) = some (pre ++ vs).toArray
  | [], i, vs, pre, post, h, _, _, hl => by
    simp only [JC, Option.some.injEq] at h
    subst h
    have : post = [] := List.eq_nil_of_length_eq_zero hl
    subst this
    rfl
  | p :: ps, i, vs, pre, post, h, h1, hp, hl => by
    unfold JC at h
    cases e : Nat.beq p.1 i with
    | false => simp [e] at h
    | true =>
      have hpi : p.1 = i := Nat.eq_of_beq_eq_true e
      simp only [e, cond_true] at h
      split at h
      · rename_i v us hv hus
        injection h with h
        subst h
        match post, hl with
        | q :: post, hl =>
          have hv1 := jX (h1 v (by simp))
          have ih := qG ρ hρ ps (i + 1) us (pre ++ [v]) post hus (fun u hu => h1 u (by simp [hu])) (by simp [hp]) (by simpa using hl)
          have hset : (pre ++ q :: post).toArray.setIfInBounds i v = (pre ++ [v] ++ post).toArray := by
            apply Array.ext'
            simp [← hp]
          rw [List.map_cons, hρ _ _ hv, hpi]
          unfold Instr.fill
          simp only [hv1, Nat.mul_one]
          rw [if_neg (by simp [← hp])]
          simp only [List.append_assoc, List.cons_append, List.nil_append] at hset ih ⊢
          have hfold : (#[v] : Array Value).zipIdx.foldl (fun cs (c, j) => cs.setIfInBounds (i + j) c) (pre ++ q :: post).toArray = (pre ++ v :: post).toArray := by
            simpa [Array.zipIdx] using hset
          rw [hfold]
          simpa using ih
      · cases h
def Ic (w : World) (e : TypeId) (n : Nat) (vs : List Value) (v : Value) (w' : World) : Prop := ∃ g, v = .slice (some ⟨g, 0, none⟩) n n ∧ ao w' g e vs.toArray ∧ w.heap.size ≤ g ∧ Ext w w'
theorem Gj {n : Nat} {ps : Array (Nat × Operand)} {vs : List Value} {z : Value} (hu : P.underlying t = some (.slice e)) (hi : (P.info? e).map (fun i => (i.zero, i.size)) = some (some z, 1)) (hz : z.cells.size = 1) (hp : JC L 0 ps.toList = some vs) (h1 : vs.all (·.oneCell') = true) (hn : vs.length = n) (hb' : Nat.ble n 100 = true)
    (ρ : Operand → Value) (hρ : ∀ x u, ev L x = some u → ρ x = u) (dst : Option Tmp) (pos : String) (after : Array Edge) (guard : Option (Nat × Bool)) :
    (execOp ρ ⟨dst, .buildSlice t n ps, ty, pos, after, guard⟩).run P w = .ok (.value (.slice (some ⟨w.heap.size, 0, none⟩) n n)) (w.alloc (.cells vs.toArray e)) := by
  have hb : n ≤ 16777216 := Nat.le_trans (Nat.le_of_ble_eq_true hb') Om
  clear hb'
  cases hq : P.info? e with
  | none => simp [hq] at hi
  | some i =>
    simp only [hq, Option.map_some, Option.some.injEq, Prod.mk.injEq] at hi
    obtain ⟨z0, hz0⟩ : ∃ z0, z.cells[0]! = z0 := ⟨_, rfl⟩
    have hf := qG ρ hρ ps.toList 0 vs [] (List.replicate n z0) hp (by simpa using h1) rfl (by simp [hn])
    simp only [List.nil_append, Nat.mul_one, List.toArray_replicate] at hf
    subst hn
    by_cases h0 : vs.length = 0
    · have hr : ∀ Z : Array Value, (Array.range vs.length).map (fun k => Z[k % Z.size]!) = Array.replicate vs.length z0 := fun Z => by simp [h0, Array.range_zero']
      simp only [h0, Array.replicate_zero] at hf
      simp [execOp, Instr.buildSlice, run_underlying hu, sizeOf, typeInfo, hq, hi.2, h0, newRow, Array.range_zero', hf]
    · have hr : (Array.range vs.length).map (fun k => z.cells[k % z.cells.size]!) = Array.replicate vs.length z0 := by
        apply Array.ext'
        simp only [hz, Nat.mod_one, hz0]
        simp [List.map_const']
      have hb' : ¬ 16777216 < vs.length := by omega
      simp [execOp, Instr.buildSlice, run_underlying hu, sizeOf, typeInfo, hq, hi.1, hi.2, h0, hb', zeroValue, newRow, hr, hf]
theorem aB {n : Nat} {ps : Array (Nat × Operand)} {vs : List Value} {z : Value} (hu : P.underlying t = some (.slice e)) (hi : (P.info? e).map (fun i => (i.zero, i.size)) = some (some z, 1)) (hz : z.cells.size = 1) (hp : JC L 0 ps.toList = some vs) (h1 : vs.all (·.oneCell') = true) (hn : vs.length = n) (hb' : Nat.ble n 100 = true) :
  Ef P L w (.buildSlice t n ps) ty (Ic w e n vs) := Ef.run fun ρ hρ =>
 ⟨_, w.alloc (.cells vs.toArray e), ⟨w.heap.size, rfl, ao.new w e _, Nat.le_refl _, Ext.alloc w _⟩, Gj hu hi hz hp h1 hn hb' ρ hρ⟩
theorem dn {n : Nat} {a b : Int} {k k' : IntKind} {z : Value} {sz bytes : Nat} (hx : ev L x = some (.int k a)) (hy : ev L y = some (.int k' b)) (hu : P.underlying t = some (.slice e)) (hi : (P.info? e).map (fun i => (i.zero, i.size, i.bytes)) = some (some z, sz, bytes)) (hs : sz = 1) (hz : z.oneCell' = true)
    (ha : a = (n : Int)) (hb : b = (n : Int)) (hbytes : (bytes : Int) * n ≤ 281474976710656) (h63 : (n : Int) ≤ 9223372036854775807) : Ef P L w (.makeSlice t x y) ty (Ic w e n (List.replicate n z)) := Ef.run fun ρ hρ => by
  subst ha; subst hb; subst hs
  refine ⟨_, w.alloc (.cells (List.replicate n z).toArray e), ⟨w.heap.size, rfl, ao.new w e _, Nat.le_refl _, Ext.alloc w _⟩, fun _ _ _ _ => ?_⟩
  cases hq : P.info? e with
  | none => simp [hq] at hi
  | some i =>
    simp only [hq, Option.map_some, Option.some.injEq, Prod.mk.injEq] at hi
    have hr := run_make (P := P) w t e i z hu hq hi.1 k k' n n Om Om (by rw [hi.2.2]; exact hbytes) h63
    have hc : madeCells z.cells (n * 1) = (List.replicate n z).toArray := by
      apply Array.ext'
      have h1 := jX hz
      unfold madeCells
      rw [h1]
      simp [Nat.mod_one, List.map_const']
    simp only [Int.toNat_natCast, hi.2.1, hc] at hr
    simp [execOp, hρ _ _ hx, hρ _ _ hy, hr]
end
end
section
variable {P : Program} {ops : Array Oper} {Q : Exit → Act → World → Prop} {rest : List Oper} {N : Nd} {L : List (Nat × Value)} {w : World} {ty : TypeId} {dst : Option Tmp} {pos : String} {after : Array Edge} {f : FuncId} {xs : List Operand} {ats : Array TypeId} {vs : List Value} {R : Ending → World → Prop} {fn : Func} {c : Code}
theorem aL (hf : P.funcs[f]? = some fn) (hx : lI L xs = some vs) (h : Calls P f vs.toArray w R) (hr : ∀ e w', R e w' → ∃ v, e = .returned v ∧ WL P ops Q rest N (bL dst v L) w')
 (hb : fn.body = some c := by exact rfl) (hn : (fn.name == "runtime.NumGoroutine") = false := by exact rfl) (hd : gH N dst = true := by exact rfl) : WL P ops Q (⟨dst, .call { callee := .value (.func f), args := xs.toArray, argTypes := ats }, ty, pos, after, none⟩ :: rest) N L w := EV hf hb hn hx h hd hr
theorem bm {n : Nat} {listed : Array Bool} (i : Nat) (hi : ops[i]? = some ⟨dst, .call { callee := .value (.func f), args := xs.toArray, argTypes := ats }, ty, pos, after, none⟩) (hf : P.funcs[f]? = some fn) (hx : lI L xs = some vs) (h : Calls P f vs.toArray w R)
 (hr : ∀ e w', R e w' → ∃ v, e = .returned v ∧ (turns ops i = true ∨ Ext w w') ∧ WM P ops Q n (listed.setIfInBounds i true) N (bL dst v L) w')
 (ho : Region.ready .any ops listed = [i] := by kernel_rfl) (hb : fn.body = some c := by exact rfl) (hn : (fn.name == "runtime.NumGoroutine") = false := by exact rfl) (hd : gH N dst = true := by exact rfl) : WM P ops Q (n + 1) listed N L w := aM i ho (dG hi hf hb hn hx h hd hr)
end
theorem Lv {a b : Option Value} (h : a = b := by first | rfl | exact congrArg some (rU (by omega))) : a = b := h
theorem Ls {p : Prop} (h : p := by repeat (first | exact trivial | refine ⟨by first | rfl | exact congrArg some (rU (by omega)), ?_⟩)) : p := h
end Go.Proofs.YtgfafidlkldeaaaGreat
