/- What single operations leave: numbers, tests, lengths, addresses, loads. No conditions: plain lemmas of the model. -/
import Derived.Test.YtopimmomkapdoaaVc2
import Derived.Laws.BitsAllLaws
import Derived.IntWalk
namespace Go.Proofs.Ytopimmomkapdoaa
open Go.RowKit
section
variable {P : Program} {L : List (Nat × Value)} {w : World} {ty t t' : TypeId} {x y : Operand} {k k' : IntKind} {a b c : Int}

theorem y_move {v : Value} (hx : ev L x = some v) : Y P L w (.move x) ty v := fun ρ hρ w' _ _ _ _ _ => by simp [execOp, hρ _ _ hx]
theorem y_assign {v : Value} (hx : ev L x = some v) : Y P L w (.assign x) ty v := fun ρ hρ w' _ _ _ _ _ => by simp [execOp, hρ _ _ hx]
theorem y_pick {z : Operand} {p : Bool} {v u : Value} (hx : ev L z = some (.bool p)) (hy : ev L x = some v) (hz : ev L y = some u) : Y P L w (.pick z x y) ty (if p then v else u) := fun ρ hρ w' _ _ _ _ _ => by
  simp [execOp, hρ _ _ hx, hρ _ _ hy, hρ _ _ hz, asBool]
theorem y_len_slice {A : Option Addr} {n m : Nat} {e : TypeId} (hx : ev L x = some (.slice A n m)) (hu : P.underlying t = some (.slice e)) : Y P L w (.call { callee := .builtin .len, args := #[x], argTypes := #[t] }) ty (.int .i64 (n : Int)) := fun ρ hρ w' _ _ _ _ _ => by
  simp [execOp, resolve, invoke, builtin, hρ _ _ hx, Builtin.len_, run_underlying hu, goInt]
theorem y_len_str {s : ByteArray} (hx : ev L x = some (.string s)) (hu : P.underlying t = some .string) : Y P L w (.call { callee := .builtin .len, args := #[x], argTypes := #[t] }) ty (.int .i64 (s.size : Int)) := fun ρ hρ w' _ _ _ _ _ => by
  simp [execOp, resolve, invoke, builtin, hρ _ _ hx, Builtin.len_, run_underlying hu, goInt]
theorem y_len_arr {v : Value} {n : Nat} {e : TypeId} (hx : ev L x = some v) (hu : P.underlying t = some (.array n e)) : Y P L w (.call { callee := .builtin .len, args := #[x], argTypes := #[t] }) ty (.int .i64 (n : Int)) := fun ρ hρ w' _ _ _ _ _ => by
  simp [execOp, resolve, invoke, builtin, hρ _ _ hx, Builtin.len_, run_underlying hu, goInt]
theorem y_min (hx : ev L x = some (.int k a)) (hy : ev L y = some (.int k' b)) {ts : Array TypeId} : Y P L w (.call { callee := .builtin .min, args := #[x, y], argTypes := ts }) ty (.int k (if b < a then b else a)) := fun ρ hρ w' _ _ _ _ _ => by
  simp [execOp, resolve, invoke, builtin, hρ _ _ hx, hρ _ _ hy, Builtin.min_, Builtin.min2]
theorem y_max (hx : ev L x = some (.int k a)) (hy : ev L y = some (.int k' b)) {ts : Array TypeId} : Y P L w (.call { callee := .builtin .max, args := #[x, y], argTypes := ts }) ty (.int k (if a < b then b else a)) := fun ρ hρ w' _ _ _ _ _ => by
  simp [execOp, resolve, invoke, builtin, hρ _ _ hx, hρ _ _ hy, Builtin.max_, Builtin.max2]

/-! Tests. -/
theorem y_lss (hx : ev L x = some (.int k a)) (hy : ev L y = some (.int k b)) : Y P L w (.binOp .lss t x y t') ty (.bool (decide (a < b))) := fun ρ hρ w' _ _ _ _ _ => by
  simp [execOp, hρ _ _ hx, hρ _ _ hy, eqGuard, binOp, Op.intCmp]
theorem y_leq (hx : ev L x = some (.int k a)) (hy : ev L y = some (.int k b)) : Y P L w (.binOp .leq t x y t') ty (.bool (decide (a ≤ b))) := fun ρ hρ w' _ _ _ _ _ => by
  simp [execOp, hρ _ _ hx, hρ _ _ hy, eqGuard, binOp, Op.intCmp]
theorem y_gtr (hx : ev L x = some (.int k a)) (hy : ev L y = some (.int k b)) : Y P L w (.binOp .gtr t x y t') ty (.bool (decide (b < a))) := fun ρ hρ w' _ _ _ _ _ => by
  simp [execOp, hρ _ _ hx, hρ _ _ hy, eqGuard, binOp, Op.intCmp]
theorem y_geq (hx : ev L x = some (.int k a)) (hy : ev L y = some (.int k b)) : Y P L w (.binOp .geq t x y t') ty (.bool (decide (b ≤ a))) := fun ρ hρ w' _ _ _ _ _ => by
  simp [execOp, hρ _ _ hx, hρ _ _ hy, eqGuard, binOp, Op.intCmp]
theorem beq_dec (a b : Int) : (a == b) = decide (a = b) := by
  by_cases h : a = b <;> simp [h]
theorem bne_dec (a b : Int) : (a != b) = decide (a ≠ b) := by
  by_cases h : a = b <;> simp [h]
theorem y_eql (hx : ev L x = some (.int k a)) (hy : ev L y = some (.int k b)) : Y P L w (.binOp .eql t x y t') ty (.bool (decide (a = b))) := fun ρ hρ w' _ _ _ _ _ => by
  simp [execOp, hρ _ _ hx, hρ _ _ hy, eqGuard, binOp, Op.intCmp, beq_dec]
theorem y_neq (hx : ev L x = some (.int k a)) (hy : ev L y = some (.int k b)) : Y P L w (.binOp .neq t x y t') ty (.bool (decide (a ≠ b))) := fun ρ hρ w' _ _ _ _ _ => by
  simp only [execOp, hρ _ _ hx, hρ _ _ hy, eqGuard, binOp, Op.intCmp, bne_dec]; simp
theorem y_eqlb {p q : Bool} (hx : ev L x = some (.bool p)) (hy : ev L y = some (.bool q)) (hu : P.underlying t = some .bool) : Y P L w (.binOp .eql t x y t') ty (.bool (p == q)) := fun ρ hρ w' _ _ _ _ _ => by
  have h := run_eql_bool (P := P) w' t p q hu
  simp only [execOp, hρ _ _ hx, hρ _ _ hy, eqGuard]
  simp [h]
theorem y_neqb {p q : Bool} (hx : ev L x = some (.bool p)) (hy : ev L y = some (.bool q)) (hu : P.underlying t = some .bool) : Y P L w (.binOp .neq t x y t') ty (.bool (!(p == q))) := fun ρ hρ w' _ _ _ _ _ => by
  have h := run_neq_bool (P := P) w' t p q hu
  simp only [execOp, hρ _ _ hx, hρ _ _ hy, eqGuard]
  simp [h]
theorem y_not {p : Bool} (hx : ev L x = some (.bool p)) : Y P L w (.unOp .not t x) ty (.bool (!p)) := fun ρ hρ w' _ _ _ _ _ => by
  simp [execOp, hρ _ _ hx, Op.unary]
/-- The same under another name. -/
theorem Y.as {op : Op} {u v : Value} (h : Y P L w op ty u) (e : u = v) : Y P L w op ty v := e ▸ h

/-! A test on which the walk parts. -/
section
variable {ops : Array Oper} {Q : Exit → Act → World → Prop} {rest : List Oper} {N : Nd} {d : Tmp} {dst : Option Tmp} {pos : String} {after : Array Edge} {op : Op} {p : Prop} [Decidable p] {b : Bool}
theorem wl_yaskb (h : Y P L w op ty (.bool b)) (hd : Nat.ble (d + 1) N.n = true) (ht : b = true → WL P ops Q rest N ((d, .bool true) :: L) w) (hf : b = false → WL P ops Q rest N ((d, .bool false) :: L) w) : WL P ops Q (⟨some d, op, ty, pos, after, none⟩ :: rest) N L w := by
  cases b
  · exact wl_y h hd (hf rfl)
  · exact wl_y h hd (ht rfl)
theorem wl_gyaskb {j : Nat} {b' : Bool} (t : Tmp) (hj : (ops[j]?).bind (·.dst) = some t) (hg : look L t = some (.bool b')) (h : Y P L w op ty (.bool b)) (hd : Nat.ble (d + 1) N.n = true) (ht : b = true → WL P ops Q rest N ((d, .bool true) :: L) w) (hf : b = false → WL P ops Q rest N ((d, .bool false) :: L) w) : WL P ops Q (⟨some d, op, ty, pos, after, some (j, b')⟩ :: rest) N L w := by
  cases b
  · exact wl_gy t hj hg h hd (hf rfl)
  · exact wl_gy t hj hg h hd (ht rfl)
theorem wl_yask (h : Y P L w op ty (.bool (decide p))) (hd : Nat.ble (d + 1) N.n = true) (ht : p → WL P ops Q rest N ((d, .bool true) :: L) w) (hf : ¬ p → WL P ops Q rest N ((d, .bool false) :: L) w) : WL P ops Q (⟨some d, op, ty, pos, after, none⟩ :: rest) N L w :=
  wl_yaskb h hd (fun e => ht (of_decide_eq_true e)) (fun e => hf (of_decide_eq_false e))
theorem wl_gyask {j : Nat} {b' : Bool} (t : Tmp) (hj : (ops[j]?).bind (·.dst) = some t) (hg : look L t = some (.bool b')) (h : Y P L w op ty (.bool (decide p))) (hd : Nat.ble (d + 1) N.n = true) (ht : p → WL P ops Q rest N ((d, .bool true) :: L) w) (hf : ¬ p → WL P ops Q rest N ((d, .bool false) :: L) w) : WL P ops Q (⟨some d, op, ty, pos, after, some (j, b')⟩ :: rest) N L w :=
  wl_gyaskb t hj hg h hd (fun e => ht (of_decide_eq_true e)) (fun e => hf (of_decide_eq_false e))
theorem wm_yaskb {n : Nat} {listed : Array Bool} (i : Nat) (hi : ops[i]? = some ⟨dst, op, ty, pos, after, none⟩) (hfr : freeOf .any ops listed i = true) (h : Y P L w op ty (.bool b)) (hd : dOk N dst = true)
    (ht : b = true → WM P ops (NoP Q) n (listed.setIfInBounds i true) N (pushd dst (.bool true) L) w) (hf : b = false → WM P ops (NoP Q) n (listed.setIfInBounds i true) N (pushd dst (.bool false) L) w) : WM P ops (NoP Q) (n + 1) listed N L w := by
  cases b
  · exact wm_y i hi hfr h hd (hf rfl)
  · exact wm_y i hi hfr h hd (ht rfl)
theorem wm_gyaskb {n : Nat} {listed : Array Bool} (i : Nat) {j : Nat} {b' : Bool} (hi : ops[i]? = some ⟨dst, op, ty, pos, after, some (j, b')⟩) (hfr : freeOf .any ops listed i = true) (t : Tmp) (hj : (ops[j]?).bind (·.dst) = some t) (hg : look L t = some (.bool b')) (h : Y P L w op ty (.bool b)) (hd : dOk N dst = true)
    (ht : b = true → WM P ops (NoP Q) n (listed.setIfInBounds i true) N (pushd dst (.bool true) L) w) (hf : b = false → WM P ops (NoP Q) n (listed.setIfInBounds i true) N (pushd dst (.bool false) L) w) : WM P ops (NoP Q) (n + 1) listed N L w := by
  cases b
  · exact wm_gy i hi hfr t hj hg h hd (hf rfl)
  · exact wm_gy i hi hfr t hj hg h hd (ht rfl)
theorem wm_yask {n : Nat} {listed : Array Bool} (i : Nat) (hi : ops[i]? = some ⟨dst, op, ty, pos, after, none⟩) (hfr : freeOf .any ops listed i = true) (h : Y P L w op ty (.bool (decide p))) (hd : dOk N dst = true)
    (ht : p → WM P ops (NoP Q) n (listed.setIfInBounds i true) N (pushd dst (.bool true) L) w) (hf : ¬ p → WM P ops (NoP Q) n (listed.setIfInBounds i true) N (pushd dst (.bool false) L) w) : WM P ops (NoP Q) (n + 1) listed N L w :=
  wm_yaskb i hi hfr h hd (fun e => ht (of_decide_eq_true e)) (fun e => hf (of_decide_eq_false e))
theorem wm_gyask {n : Nat} {listed : Array Bool} (i : Nat) {j : Nat} {b' : Bool} (hi : ops[i]? = some ⟨dst, op, ty, pos, after, some (j, b')⟩) (hfr : freeOf .any ops listed i = true) (t : Tmp) (hj : (ops[j]?).bind (·.dst) = some t) (hg : look L t = some (.bool b')) (h : Y P L w op ty (.bool (decide p))) (hd : dOk N dst = true)
    (ht : p → WM P ops (NoP Q) n (listed.setIfInBounds i true) N (pushd dst (.bool true) L) w) (hf : ¬ p → WM P ops (NoP Q) n (listed.setIfInBounds i true) N (pushd dst (.bool false) L) w) : WM P ops (NoP Q) (n + 1) listed N L w :=
  wm_gyaskb i hi hfr t hj hg h hd (fun e => ht (of_decide_eq_true e)) (fun e => hf (of_decide_eq_false e))
end

/-! Numbers. -/
theorem y_add (hx : ev L x = some (.int k a)) (hy : ev L y = some (.int k b)) (h : k.wrap (a + b) = c) : Y P L w (.binOp .add t x y t') ty (.int k c) := fun ρ hρ w' _ _ _ _ _ => by
  simp [execOp, hρ _ _ hx, hρ _ _ hy, eqGuard, binOp, Op.intArith, h]
theorem y_sub (hx : ev L x = some (.int k a)) (hy : ev L y = some (.int k b)) (h : k.wrap (a - b) = c) : Y P L w (.binOp .sub t x y t') ty (.int k c) := fun ρ hρ w' _ _ _ _ _ => by
  simp [execOp, hρ _ _ hx, hρ _ _ hy, eqGuard, binOp, Op.intArith, h]
theorem y_mul (hx : ev L x = some (.int k a)) (hy : ev L y = some (.int k b)) (h : k.wrap (a * b) = c) : Y P L w (.binOp .mul t x y t') ty (.int k c) := fun ρ hρ w' _ _ _ _ _ => by
  simp [execOp, hρ _ _ hx, hρ _ _ hy, eqGuard, binOp, Op.intArith, h]
theorem y_quo (hx : ev L x = some (.int k a)) (hy : ev L y = some (.int k b)) (h0 : b ≠ 0) (h : k.wrap (a.tdiv b) = c) : Y P L w (.binOp .quo t x y t') ty (.int k c) := fun ρ hρ w' _ _ _ _ _ => by
  simp [execOp, hρ _ _ hx, hρ _ _ hy, eqGuard, binOp, Op.intDiv, h0, h]
theorem y_rem (hx : ev L x = some (.int k a)) (hy : ev L y = some (.int k b)) (h0 : b ≠ 0) (h : a.tmod b = c) : Y P L w (.binOp .rem t x y t') ty (.int k c) := fun ρ hρ w' _ _ _ _ _ => by
  simp [execOp, hρ _ _ hx, hρ _ _ hy, eqGuard, binOp, Op.intDiv, h0, h]
theorem y_shl (hx : ev L x = some (.int k a)) (hy : ev L y = some (.int k' b)) (h0 : 0 ≤ b) (h : k.wrap (a * 2 ^ min b.toNat k.bits) = c) : Y P L w (.binOp .shl t x y t') ty (.int k c) := fun ρ hρ w' _ _ _ _ _ => by
  simp [execOp, hρ _ _ hx, hρ _ _ hy, eqGuard, binOp, shift_shl_any _ _ _ _ h0, h]
theorem y_shr (hx : ev L x = some (.int k a)) (hy : ev L y = some (.int k' b)) (h0 : 0 ≤ b) (h : a / 2 ^ min b.toNat k.bits = c) : Y P L w (.binOp .shr t x y t') ty (.int k c) := fun ρ hρ w' _ _ _ _ _ => by
  simp [execOp, hρ _ _ hx, hρ _ _ hy, eqGuard, binOp, shift_shr_any _ _ _ _ h0, h]
theorem y_and (hx : ev L x = some (.int k a)) (hy : ev L y = some (.int k b)) (h : bits .and k a b = c) : Y P L w (.binOp .and t x y t') ty (.int k c) := fun ρ hρ w' _ _ _ _ _ => by
  subst h; simp [execOp, hρ _ _ hx, hρ _ _ hy, eqGuard, binOp, Op.intBits, bits]
theorem y_or (hx : ev L x = some (.int k a)) (hy : ev L y = some (.int k b)) (h : bits .or k a b = c) : Y P L w (.binOp .or t x y t') ty (.int k c) := fun ρ hρ w' _ _ _ _ _ => by
  subst h; simp [execOp, hρ _ _ hx, hρ _ _ hy, eqGuard, binOp, Op.intBits, bits]
theorem y_xor (hx : ev L x = some (.int k a)) (hy : ev L y = some (.int k b)) (h : bits .xor k a b = c) : Y P L w (.binOp .xor t x y t') ty (.int k c) := fun ρ hρ w' _ _ _ _ _ => by
  subst h; simp [execOp, hρ _ _ hx, hρ _ _ hy, eqGuard, binOp, Op.intBits, bits]
theorem y_andNot (hx : ev L x = some (.int k a)) (hy : ev L y = some (.int k b)) (h : bits .andNot k a b = c) : Y P L w (.binOp .andNot t x y t') ty (.int k c) := fun ρ hρ w' _ _ _ _ _ => by
  subst h; simp [execOp, hρ _ _ hx, hρ _ _ hy, eqGuard, binOp, Op.intBits, bits]
theorem y_neg (hx : ev L x = some (.int k a)) (h : k.wrap (0 - a) = c) : Y P L w (.unOp .neg t x) ty (.int k c) := fun ρ hρ w' _ _ _ _ _ => by
  subst h; simp only [execOp, hρ _ _ hx, Op.unary, Op.intArith]; simp
theorem y_xorNot (hx : ev L x = some (.int k a)) (hs : k.signed = false) (h : bits .xor k k.max a = c) : Y P L w (.unOp .xor t x) ty (.int k c) := fun ρ hρ w' _ _ _ _ _ => by
  subst h; simp only [execOp, hρ _ _ hx, Op.unary, Op.intBits, bits, hs]; simp
theorem y_conv (hx : ev L x = some (.int k a)) {k2 : IntKind} {d : TypeDesc} (hs : P.underlying t = some d) (hu : P.underlying t' = some (.int k2)) (h : k2.wrap a = c) : Y P L w (.convert t t' x) ty (.int k2 c) := fun ρ hρ w' _ _ _ _ _ => by
  subst h
  have hc : (convert t t' (.int k a)).run P w' = .ok (.int k2 (k2.wrap a)) w' := by
    unfold convert
    simp only [Sem.run_bind, run_underlying hs, run_underlying hu, Result.andThen_ok]
    cases d <;> rfl
  simp [execOp, hρ _ _ hx, hc]
theorem bits_u8 {p q : Nat} (hp : p < 256) (hq : q < 256) : bits .and .u8 p q = ((p &&& q : Nat) : Int) ∧ bits .or .u8 p q = ((p ||| q : Nat) : Int) ∧ bits .xor .u8 p q = ((p ^^^ q : Nat) : Int) :=
  ⟨by have := u8_and p q (by omega) (by omega) (by omega) (by omega); simpa using this, by have := u8_or p q (by omega) (by omega) (by omega) (by omega); simpa using this, by have := u8_xor p q (by omega) (by omega) (by omega) (by omega); simpa using this⟩
theorem bits_u32 {p q : Nat} (hp : p < 4294967296) (hq : q < 4294967296) : bits .and .u32 p q = ((p &&& q : Nat) : Int) ∧ bits .or .u32 p q = ((p ||| q : Nat) : Int) ∧ bits .xor .u32 p q = ((p ^^^ q : Nat) : Int) :=
  ⟨by have := u32_and p q (by omega) (by omega) (by omega) (by omega); simpa using this, by have := u32_or p q (by omega) (by omega) (by omega) (by omega); simpa using this, by have := u32_xor p q (by omega) (by omega) (by omega) (by omega); simpa using this⟩
theorem bits_u64 {p q : Nat} (hp : p < 18446744073709551616) (hq : q < 18446744073709551616) : bits .and .u64 p q = ((p &&& q : Nat) : Int) ∧ bits .or .u64 p q = ((p ||| q : Nat) : Int) ∧ bits .xor .u64 p q = ((p ^^^ q : Nat) : Int) :=
  ⟨by have := u64_and p q (by omega) (by omega) (by omega) (by omega); simpa using this, by have := u64_or p q (by omega) (by omega) (by omega) (by omega); simpa using this, by have := u64_xor p q (by omega) (by omega) (by omega) (by omega); simpa using this⟩

/-! Addresses. -/
theorem size_of_info {e : TypeId} {n : Nat} (h : (P.info? e).map (·.size) = some n) (w : World) : (sizeOf e).run P w = .ok n w := by
  cases hi : P.info? e with
  | none => simp [hi] at h
  | some i => simp [hi] at h; simp [sizeOf, typeInfo, hi, h]
theorem y_ixs {A : Addr} {n m j : Nat} {e : TypeId} {s : Nat} (hx : ev L x = some (.slice (some A) n m)) (hy : ev L y = some (.int k a)) (hu : P.underlying t = some (.slice e)) (hs : (P.info? e).map (·.size) = some s) (ha : a = (j : Int)) (hj : j < n) :
    Y P L w (.indexAddr t x y) ty (.pointer (some (A.add (j * s)))) := fun ρ hρ w' _ _ _ _ _ => by
  subst ha
  simp [execOp, hρ _ _ hx, hρ _ _ hy, Instr.indexAt, asIntOf, run_underlying hu, size_of_info hs, hj]
theorem y_ixs1 {b' off n m j : Nat} {e : TypeId} (hx : ev L x = some (.slice (some ⟨b', off, none⟩) n m)) (hy : ev L y = some (.int k a)) (hu : P.underlying t = some (.slice e)) (hs : (P.info? e).map (·.size) = some 1) (ha : a = (j : Int)) (hj : j < n) :
    Y P L w (.indexAddr t x y) ty (.pointer (some ⟨b', off + j, none⟩)) := by
  have h := y_ixs (w := w) (ty := ty) hx hy hu hs ha hj
  rw [add_lit, Nat.mul_one] at h
  exact h
theorem y_ixa {A : Addr} {n j : Nat} {e : TypeId} {s : Nat} (hx : ev L x = some (.pointer (some A))) (hy : ev L y = some (.int k a)) (hu : P.underlying t = some (.array n e)) (hs : (P.info? e).map (·.size) = some s) (ha : a = (j : Int)) (hj : j < n) :
    Y P L w (.indexAddr t x y) ty (.pointer (some (A.add (j * s)))) := fun ρ hρ w' _ _ _ _ _ => by
  subst ha
  simp [execOp, hρ _ _ hx, hρ _ _ hy, Instr.indexAt, asIntOf, run_underlying hu, size_of_info hs, hj, Instr.sureAddr]
theorem y_ixa1 {b' off n j : Nat} {e : TypeId} (hx : ev L x = some (.pointer (some ⟨b', off, none⟩))) (hy : ev L y = some (.int k a)) (hu : P.underlying t = some (.array n e)) (hs : (P.info? e).map (·.size) = some 1) (ha : a = (j : Int)) (hj : j < n) :
    Y P L w (.indexAddr t x y) ty (.pointer (some ⟨b', off + j, none⟩)) := by
  have h := y_ixa (w := w) (ty := ty) hx hy hu hs ha hj
  rw [add_lit, Nat.mul_one] at h
  exact h
/-- An array by value, indexed. -/
theorem y_ix1 {n j : Nat} {e : TypeId} {cs : Array Value} {v : Value} {d : TypeDesc} (hx : ev L x = some (.agg cs)) (hy : ev L y = some (.int k a)) (hu : P.underlying t = some (.array n e)) (he : P.underlying e = some d) (hd : (match d with | .struct _ | .array _ _ => false | _ => true) = true)
    (hs : (P.info? e).map (·.size) = some 1) (ha : a = (j : Int)) (hj : j < n) (hv : cs[j]? = some v) : Y P L w (.index t x y) ty v := fun ρ hρ w' _ _ _ _ _ => by
  subst ha
  have hagg : (isAgg e).run P w' = .ok false w' := by
    unfold isAgg
    rw [Sem.run_bind, run_underlying he w']
    cases d <;> first | rfl | (simp at hd)
  simp [execOp, hρ _ _ hx, hρ _ _ hy, Instr.index, asIntOf, run_underlying hu, size_of_info hs, hj, part, hagg, hv]
theorem y_ixstr {s : ByteArray} {j : Nat} {u : UInt8} (hx : ev L x = some (.string s)) (hy : ev L y = some (.int k a)) (hu : P.underlying t = some .string) (ha : a = (j : Int)) (hv : s[j]? = some u) : Y P L w (.index t x y) ty (.int .u8 (u.toNat : Int)) := fun ρ hρ w' _ _ _ _ _ => by
  subst ha
  simp [execOp, hρ _ _ hx, hρ _ _ hy, Instr.index, asIntOf, run_underlying hu, hv]
theorem y_load1 {ad : Addr} {v : Value} {d : TypeDesc} (hx : ev L x = some (.pointer (some ad))) (hu : P.underlying t = some d) (hd : (match d with | .struct _ | .array _ _ => false | _ => true) = true) (hc : w.cell? ad = some v) : Y P L w (.load t x) ty v := fun ρ hρ w' e _ _ _ _ => by
  have hc' : w'.cell? ad = some v := (e.cell (cell_lt hc)).trans hc
  have hagg : (isAgg t).run P w' = .ok false w' := by
    unfold isAgg
    rw [Sem.run_bind, run_underlying hu w']
    cases d <;> first | rfl | (simp at hd)
  simp [execOp, hρ _ _ hx, Instr.loadAt, Instr.sureAddr, loadVar, hagg, hc']
/-- A whole array or struct out of a block that is known whole. -/
theorem y_loadw {g : Nat} {e : TypeId} {cs : Array Value} {d : TypeDesc} (hx : ev L x = some (.pointer (some ⟨g, 0, none⟩))) (hu : P.underlying t = some d) (hd : (match d with | .struct _ | .array _ _ => true | _ => false) = true) (hs : (P.info? t).map (·.size) = some cs.size)
    (hg : Blk w g e cs) : Y P L w (.load t x) ty (.agg cs) := fun ρ hρ w' ex _ _ _ _ => by
  have hg' : Blk w' g e cs := hg.kept ex
  have h := run_loadVar_row (P := P) w' g e t cs (0, 0) d hg' hu hd hs
  simp [execOp, hρ _ _ hx, Instr.loadAt, Instr.sureAddr, h]
theorem y_extract {vs : Array Value} {v : Value} {i : Nat} (hx : ev L x = some (.tuple vs)) (hv : vs.toList[i]? = some v) : Y P L w (.extract x i) ty v := fun ρ hρ w' _ _ _ _ _ => by
  have hv' : vs[i]? = some v := by simpa using hv
  simp [execOp, hρ _ _ hx, Instr.extract, hv']
theorem y_nilp {ad : Addr} (hx : ev L x = some (.pointer (some ad))) : Y P L w (.nilCheck x) ty (.pointer (some ad)) := fun ρ hρ w' _ _ _ _ _ => by
  simp [execOp, hρ _ _ hx]

/-! Cuts of slices. -/
def cutA (A : Option Addr) (c l s : Nat) : Option Addr := if c = l then A else A.map (·.add (l * s))
theorem elem_of {e : TypeId} (hu : P.underlying t = some (.slice e)) : P.underlying t = some (.slice (P.elem t)) := by
  simp [Program.elem, hu]
theorem y_cutl {A : Option Addr} {n c' j s : Nat} {e : TypeId} (hx : ev L x = some (.slice A n c')) (hy : ev L y = some (.int k a)) (hu : P.underlying t = some (.slice e)) (hs : (P.info? e).map (·.size) = some s) (ha : a = (j : Int)) (hj : j ≤ n) :
    Y P L w (.slice t x (some y) none none) ty (.slice (cutA A c' j s) (n - j) (c' - j)) := fun ρ hρ w' _ _ _ _ _ => by
  subst ha
  have hb : ((Instr.sliceBounds true n c' (some (.int k j)) none none).run P w') = .ok (j, n, c') w' := by
    simp [Instr.sliceBounds, Instr.sliceBound, asIntOf, hj]
  simp [execOp, hρ _ _ hx, hρ _ _ hy, Instr.sliceAt, Instr.slice, run_underlying hu, hb, size_of_info hs, cutA]
theorem y_cuth {A : Option Addr} {n c' j s : Nat} {e : TypeId} (hx : ev L x = some (.slice A n c')) (hy : ev L y = some (.int k a)) (hu : P.underlying t = some (.slice e)) (hs : (P.info? e).map (·.size) = some s) (ha : a = (j : Int)) (hj : j ≤ c') :
    Y P L w (.slice t x none (some y) none) ty (.slice A j c') := fun ρ hρ w' _ _ _ _ _ => by
  subst ha
  have hb : ((Instr.sliceBounds true n c' none (some (.int k j)) none).run P w') = .ok (0, j, c') w' := by
    simp [Instr.sliceBounds, Instr.sliceBound, asIntOf, hj]
  have hA : (if c' = 0 then A else A.map (·.add (0 * s))) = A := by
    split
    · rfl
    · cases A <;> simp [Addr.add]
  simp [execOp, hρ _ _ hx, hρ _ _ hy, Instr.sliceAt, Instr.slice, run_underlying hu, hb, size_of_info hs]
  cases A <;> simp [Addr.add]
theorem y_cutlh {z : Operand} {A : Option Addr} {n c' j h s : Nat} {k2 : IntKind} {e : TypeId} (hx : ev L x = some (.slice A n c')) (hy : ev L y = some (.int k a)) (hz : ev L z = some (.int k2 b)) (hu : P.underlying t = some (.slice e)) (hs : (P.info? e).map (·.size) = some s) (ha : a = (j : Int)) (hb' : b = (h : Int)) (hj : j ≤ h) (hh : h ≤ c') :
    Y P L w (.slice t x (some y) (some z) none) ty (.slice (cutA A c' j s) (h - j) (c' - j)) := fun ρ hρ w' _ _ _ _ _ => by
  subst ha; subst hb'
  have hb : ((Instr.sliceBounds true n c' (some (.int k j)) (some (.int k2 h)) none).run P w') = .ok (j, h, c') w' := by
    simp [Instr.sliceBounds, Instr.sliceBound, asIntOf, hj, hh]
  simp [execOp, hρ _ _ hx, hρ _ _ hy, hρ _ _ hz, Instr.sliceAt, Instr.slice, run_underlying hu, hb, size_of_info hs, cutA]
/-- 'x[:]' of an array behind an address. -/
theorem y_cutarr {A : Addr} {n s : Nat} {e : TypeId} (hx : ev L x = some (.pointer (some A))) (hu : P.underlying t = some (.array n e)) (hs : (P.info? e).map (·.size) = some s) : Y P L w (.slice t x none none none) ty (.slice (some A) n n) := fun ρ hρ w' _ _ _ _ _ => by
  simp [execOp, hρ _ _ hx, Instr.sliceAt, Instr.sureAddr, Instr.sliceBounds, run_underlying hu, size_of_info hs, Addr.add]

theorem Bs.cutA {A : Option Addr} {n c : Nat} {xs : List UInt8} (h : Bs w A n xs) {j : Nat} (hj : j ≤ n) (hc : n ≤ c) : Bs w (cutA A c j 1) (n - j) (xs.drop j) := by
  unfold Go.Proofs.Ytopimmomkapdoaa.cutA
  rw [Nat.mul_one]
  exact h.cut hj hc
end
end Go.Proofs.Ytopimmomkapdoaa
