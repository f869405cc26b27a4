/- The walker: steps that ask nothing are taken by one lemma. No conditions. -/
import Derived.Test.YtgfafidlkldeaaaGreatVc7
import Derived.Test.YtgfafidlkldeaaaGreatVc
import Derived.Laws.BytesArg
import Derived.Laws.Strings
import Derived.Great.BuildSlice
set_option linter.unusedVariables false
set_option linter.unusedSimpArgs false
namespace Go.Proofs.YtgfafidlkldeaaaGreat
variable {aa3 : Array Bool} {after : Array Edge} {ops : Array Oper} {ats : Array TypeId} {Z args cells cs old : Array Value} {b' : Bool} {Q : Exit → Act → aa9 → Prop} {fn : Func} {M l' : List (Nat × List Nat)} {L qs : List (Nat × Value)} {S S' U js l os pre : List Nat} {rest : List Oper} {vs xs : List Value} {B base i id j k n o : Nat} {N : Nd} {A : Oa} {op : Op} {oi : Oper} {x y : Operand} {dst : Option Tmp} {P : Program} {q : Prop} {pos : String} {t t' ty : TypeId} {v : Value} {w w' w'' w0 : aa9}
section
open Go.RowKit Tryz
structure aI (S : List Nat) (w w' : aa9) : Prop where
 os : w'.os = w.os
 tape : w'.tape = w.tape
 output : w'.output = w.output
 size : w.heap.size ≤ w'.heap.size
 block : ∀ k, k < w.heap.size → k ∉ S → w'.heap[k]? = w.heap[k]?
def Kp (N : Nat) (S : List Nat) (Φ : aa9 → Prop) (w : aa9) : Prop := N ≤ w.heap.size ∧ ∀ w' : World, (∀ k, k < N → k ∉ S → w'.heap[k]? = w.heap[k]?) → Φ w'
section
variable {g : Nat}
theorem aI.refl (S : List Nat) (w : aa9) : aI S w w := ⟨rfl, rfl, rfl, Nat.le_refl _, fun _ _ _ => rfl⟩
theorem aI.mono (h : aI S w w') (hs : ∀ k ∈ S, k ∈ S') : aI S' w w' := ⟨h.os, h.tape, h.output, h.size, fun k hk hn => h.block k hk (fun hm => hn (hs k hm))⟩
theorem aI.tr (h : aI S w w') (k : aI S w' w'') : aI S w w'' :=
 ⟨k.os.trans h.os, k.tape.trans h.tape, k.output.trans h.output, Nat.le_trans h.size k.size, fun i hi hn => (k.block i (Nat.lt_of_lt_of_le hi h.size) hn).trans (h.block i hi hn)⟩
theorem aI.of (h : Ext w w') (S : List Nat) : aI S w w' := ⟨h.os, h.tape, h.output, h.size, fun k hk _ => h.block k hk⟩
theorem aI.one (h : mi w g w') : aI [g] w w' := ⟨h.os, h.tape, h.output, h.size, fun k hk hn => h.block k hk (by grind)⟩
theorem aI.bF (h : aI S w w') (hS : ∀ k ∈ S, w.heap.size ≤ k) : Ext w w' := ⟨h.os, h.tape, h.output, h.size, fun k hk => h.block k hk (fun hm => by grind)⟩
theorem aI.ext (h : aI S w w') (e : Ext w' w'') : aI S w w'' := h.tr (.of e S)
theorem aI.bD (h : aI S w w') (k : aI S' w' w'') (hs : ∀ k ∈ S', k ∈ S := by first | (simp; done) | (simp; assumption)) : aI S w w'' := h.tr (k.mono hs)
theorem aI.grow (h : aI S w w') (e : Ext w' w'') (_ : w'.heap.size ≤ k) : aI (k :: S) w w'' := (h.ext e).mono (fun _ h => List.mem_cons_of_mem _ h)
theorem aI.drop (h : aI (k :: S) w w') (hk : w.heap.size ≤ k) : aI S w w' :=
 ⟨h.os, h.tape, h.output, h.size, fun i hi hn => h.block i hi (by grind)⟩
theorem Ext.PV (h : Ext w w') (k : aI S w' w'') (hS : ∀ g ∈ S, w.heap.size ≤ g) : Ext w w'' :=
 ⟨k.os.trans h.os, k.tape.trans h.tape, k.output.trans h.output, Nat.le_trans h.size k.size, fun i hi => (k.block i (Nat.lt_of_lt_of_le hi h.size) (fun hm => by grind)).trans (h.block i hi)⟩
theorem aq.bD {b : Nat} (h : aq w b t cs) (c : aI S w w') (hb : b ∉ S := by first | (simp; done) | (simp; omega)) : aq w' b t cs := (c.block b h.lt hb).trans h
theorem aq.grow {b : Nat} (h : aq w b t cs) (e : Ext w w') (_ : w.heap.size ≤ k) : aq w' b t cs := h.ext e
theorem _root_.Go.RowKit.Below.grow {a : aa9} (h : Ext a w) (e : Ext w w') (_ : w.heap.size ≤ k) : Ext a w' := h.tr e
variable {Φ Ψ : aa9 → Prop} {N M : Nat}
theorem Kp.out (h : Kp N S Φ w) : Φ w := h.2 w fun _ _ _ => rfl
theorem Kp.bD (h : Kp N S Φ w) (c : aI S' w w') (hs : ∀ k ∈ S', k ∈ S := by first | (simp; done) | (simp; assumption)) : Kp N S Φ w' :=
 ⟨Nat.le_trans h.1 c.size, fun w2 hw => h.2 w2 fun k hk hn => (hw k hk hn).trans (c.block k (Nat.lt_of_lt_of_le hk h.1) fun hm => hn (hs k hm))⟩
theorem Kp.ext (h : Kp N S Φ w) (e : Ext w w') : Kp N S Φ w' := h.bD (aI.of e []) (by simp)
theorem Kp.below (h : Kp N S Φ w) (be : Below B w w') (hN : N ≤ B) : Kp N S Φ w' :=
 ⟨Nat.le_trans h.1 be.size, fun w2 hw => h.2 w2 fun k hk hn => (hw k hk hn).trans (be.block k Om)⟩
theorem Kp.grow (h : Kp N S Φ w) (e : Ext w w') (hk : w.heap.size ≤ k) : Kp N (k :: S) Φ w' :=
 ⟨Nat.le_trans h.1 e.size, fun w2 hw => h.2 w2 fun i hi hn => (hw i hi (by simp only [List.mem_cons, not_or]; exact ⟨by have := h.1; omega, hn⟩)).trans (e.block i (Nat.lt_of_lt_of_le hi h.1))⟩
theorem Kp.mono (h : Kp N S Φ w) (hs : ∀ k ∈ S', k ∈ S) : Kp N S' Φ w := ⟨h.1, fun w2 hw => h.2 w2 fun k hk hn => hw k hk fun hm => hn (hs k hm)⟩
theorem Kp.map (h : Kp N S Φ w) (f : ∀ w, Φ w → Ψ w) : Kp N S Ψ w := ⟨h.1, fun w2 hw => f _ (h.2 w2 hw)⟩
theorem Kp.at (h : At w A xs) (hS : xs ≠ [] → ∀ g ∈ S, ∀ o, A ≠ some ⟨g, o, none⟩) : Kp w.heap.size S (fun w => At w A xs) w := by
 refine ⟨Nat.le_refl _, fun w2 hw => ?_⟩
 rcases h with h0 | ⟨b, off, hA, hc⟩
 ·exact .inl h0
 rcases xs with _ | ⟨x, xs⟩
 ·exact .inl rfl
 have hb : b < w.heap.size := dR (hc 0 x rfl);have hn : b ∉ S := fun hm => hS (by simp) b hm off hA;exact .inr ⟨b, off, hA, fun j u hu => (World.cell?_of_block (w := w) (w' := w2) (hw b hb hn)).trans (hc j u hu)⟩
theorem Kp.bs {xs : Lb} (h : Bs w A n xs) (hS : 0 < n → ∀ g ∈ S, ∀ o, A ≠ some ⟨g, o, none⟩) : Kp w.heap.size S (fun w => Bs w A n xs) w :=
 ⟨Nat.le_refl _, fun w2 hw => ⟨h.1, (Kp.at h.2 fun hne => hS (by rw [← h.1]; grind)).2 w2 hw⟩⟩
theorem Kp.nil (S : List Nat) (A : Oa) (h : N ≤ w.heap.size) : Kp N S (fun w => Bs w A 0 []) w := ⟨h, fun _ _ => Bs.nil _ _⟩
theorem Kp.row {e : TypeId} {c : Nat} (h : Row w base e A n c xs) (hS : ∀ g ∈ S, g < base) : Kp w.heap.size S (fun w => Row w base e A n c xs) w := by
 refine ⟨Nat.le_refl _, fun w2 hw => ⟨h.1, ?_⟩⟩
 rcases h.2 with h0 | ⟨g, cap, cur, hv, hg, hb, r⟩
 ·exact .inl h0
 have hlt : g < w.heap.size := (Array.getElem?_eq_some_iff.1 hb).1;exact .inr ⟨g, cap, cur, hv, hg, (hw g hlt fun hm => by grind).trans hb, r⟩
def Fb (base : Nat) (w : aa9) (A : Oa) (n : Nat) (xs : Lb) : Prop := Bs w A n xs ∧ (0 < n → ∀ b o, A = some ⟨b, o, none⟩ → base ≤ b)
section
variable {c base' : Nat} {xs : Lb}
theorem Fb.kp (h : Fb base w A n xs) (hS : ∀ g ∈ S, g < base) : Kp w.heap.size S (fun w => Bs w A n xs) w := Kp.bs h.1 fun hn g hg o e => by have := h.2 hn g o e; grind
theorem Fb.mono (h : Fb base w A n xs) (hb : base' ≤ base) : Fb base' w A n xs := ⟨h.1, fun hn b o e => Nat.le_trans hb (h.2 hn b o e)⟩
theorem Fb.nil (base : Nat) (w : aa9) (A : Oa) : Fb base w A 0 [] := ⟨Bs.nil _ _, fun h => absurd h (Nat.lt_irrefl 0)⟩
theorem Row.fb (h : Row w base 5 A n c (xs.map bv)) : Fb base w A n xs := ⟨h.bs, fun _ b o e => by subst e; exact (Row.lt h).1⟩
theorem Fb.bs (h : Fb base w A n xs) : Bs w A n xs := h.1
theorem Bn.fb (h : Bn base w A n xs) : Fb base w A n xs := ⟨h.1, fun _ b o e => (h.2 b o e).1⟩
theorem Fb.ext (h : Fb base w A n xs) (e : Ext w w') : Fb base w' A n xs := ⟨h.1.ext e, h.2⟩
end
theorem Row.bD {S : List Nat} {w w' : aa9} {c : Nat} {e : TypeId} (h : Row w base e A n c xs) (k : aI S w w') (hS : ∀ g ∈ S, g < base := by first | (simp; done) | (simp; omega)) : Row w' base e A n c xs :=
 ((Kp.row h hS).bD k (fun _ h => h)).out
end
section
variable {e : TypeId}
theorem xE {g o s : Nat} {cs : Array Value} {d : TypeDesc} (hx : ev L x = some (.pointer (some ⟨g, o, none⟩))) (hu : P.underlying t = some d) (hd : (match d with | .struct _ | .array _ _ => true | _ => false) = true) (hs : (P.info? t).map (·.size) = some s) (hB : aq w g e cs) (hz : Nat.ble (o + s) cs.size = true) : Y P L w (.load t x) ty (.agg ((cs.toList.drop o).take s).toArray) := by
 have hz' : o + s ≤ cs.size := Nat.le_of_ble_eq_true hz;have hsz : ((cs.toList.drop o).take s).toArray.size = s := by simp; omega
 refine ew hx hu hd (by grind) fun j v hj => ?_;rw [Addr.add_plain];refine hB.get ?_;grind
end
section
variable {f : FuncId} {c : Code} {R : Ending → aa9 → Prop}
def Lr : List Value → Bool
 | [] => true
 | v :: vs => v.oneCell' && Lr vs
theorem bu (h : Lr cells.toList = true) : cells.all (·.oneCell') = true := by
  rw [← Array.all_toList];generalize cells.toList = l at h
  induction l with
  | nil => rfl
  | cons v vs ih =>
    rw [Lr, Bool.and_eq_true] at h
    grind
end
section
variable {e : TypeId}
theorem xH {s u : ByteArray} (hx : ev L x = some (.string s)) (hy : ev L y = some (.string u)) : Y P L w (.binOp .eql t x y t') ty (.bool (s.toList == u.toList)) := fun ρ hρ w' _ _ _ _ _ => by simp [execOp, hρ _ _ hx, hρ _ _ hy, eqGuard, binOp, Op.stringOp]
def iU (xs : Lb) : ByteArray := ⟨xs.toArray⟩
theorem vA (xs : Lb) : (iU xs).toList = xs := by exact Go.ByteArray.toList_mk xs
theorem Pv (xs ys : Lb) : ((iU xs).toList == (iU ys).toList) = decide (xs = ys) := by rw [vA, vA];grind
theorem kx {c : Nat} {xs : Lb} (hx : ev L x = some (.slice A n c)) (HA : Bs w A n xs) (hs : P.underlying t = some (.slice e)) (he : P.underlying e = some (.int .u8)) (hd : P.underlying t' = some .string) :
  Y P L w (.convert t t' x) ty (.string (iU xs)) := fun ρ hρ w' E _ _ _ _ => by
 have HB := HA.wk E
 have key : (convert t t' (.slice A n c)).run P w' = .ok (.string (iU xs)) w' := by
  rcases Nat.eq_zero_or_pos n with h0 | h0
  ·subst h0;have hx0 : xs = [] := List.eq_nil_of_length_eq_zero HA.1;subst hx0;rw [run_convert_bytes_string w' t t' e A 0 c hs he hd]
   cases A with
   | none => simp [Conv.bytesToString, iU]; rfl
   | some a => rw [run_bytesToString w' a 0 c [] (by simp [loadCells, loadCellsFrom])]; rfl
  obtain ⟨b, off, rfl, _⟩ := HB.get h0
  have h := run_convert_bytes_arg (P := P) w' t e hs he b off n c (xs.map fun u => (u.toNat : Int)) (by simpa using HA.1) (fun i hi => by
   have hl := HA.1;obtain ⟨b', off', e1, _, hc⟩ := HB.get hi
   grind) t' hd
  rw [h]
  have : strOfNums (xs.map fun u => (u.toNat : Int)) = iU xs := by
   unfold strOfNums iU;congr 1;rw [List.map_map];congr 1;conv => rhs; rw [← List.map_id xs]
   exact List.map_congr_left fun u _ => by simp
  rw [this]
 simp [execOp, hρ _ _ hx, key]
theorem nF {c n' c' : Nat} (hx : ev L x = some (.slice A n c)) (hy : ev L y = some (.slice none n' c')) (hu : P.underlying t = some (.slice e)) : Y P L w (.binOp .eql t x y t') ty (.bool A.isNone) := fun ρ hρ w' _ _ _ _ _ => by have h := Lib.run_eql_slice_nil (P := P) w' t e A n c n' c' hu;simp [execOp, hρ _ _ hx, hρ _ _ hy, eqGuard, h]
end
attribute [local irreducible] Y Ef WL WC WK WQ WM cu WN WF db
theorem mS (A B : Oa) (n c m d : Nat) (xs ys : Lb) (w : aa9) (HA : Bs w A n xs) (HB : Bs w B m ys) :
  Ct 89 #[.slice A n c, .slice B m d] w (ck w (.bool (decide (xs = ys)))) := by
 refine ai 10 func89 ?_;intro Q aa4;refine dB ?_; intro K1 hK1;refine dr ?_;refine ak (di rfl) ?_;refine gD ?_;refine ae (hK1 ?_);refine dB ?_; intro K2 hK2;refine dr ?_;refine ak (aL rfl) ?_;refine ak (kx rfl HA underlying23 underlying5 underlying9) ?_;refine ak (aL rfl) ?_;refine ak (kx rfl HB underlying23 underlying5 underlying9) ?_;refine ak (xH rfl rfl) ?_;refine ak (di rfl) ?_;refine gD ?_;refine ae (hK2 ?_);refine oD ?_;exact aa4 rfl ⟨by rw [Pv], Ext.refl _⟩
theorem y9 (A : Oa) (n c : Nat) (xs : Lb) (w : aa9) (HA : Bs w A n xs) (hn : 0 < n) (hn2 : n ≤ 35184372088832) :
  Ct 100 #[.slice A n c] w fun e w' => ∃ A' c', e = .returned (.slice A' n c') ∧ Row w' w.heap.size 5 A' n c' (xs.map bv) ∧ Ext w w' := by
 obtain ⟨b0, off0, rfl, _⟩ := HA.get hn;refine ai 8 func100 ?_;intro Q aa4;refine dB ?_; intro K1 hK1;refine dr ?_;refine ak (di rfl) ?_;refine gD ?_;refine ae (hK1 ?_);refine dB ?_; intro K2 hK2;refine dB ?_; intro K3 hK3;refine dr ?_;refine ak (aL rfl) ?_;refine ak (nF rfl rfl underlying23) ?_;refine gD ?_;refine ae (hK3 ?_);refine bm rfl rfl ?_;refine sA ?_;refine ae (hK2 ?_);refine dB ?_; intro K4 hK4;refine dr ?_;refine af (aF (z := .int .u8 0) underlying23 Kr rfl rfl rfl rfl rfl) rfl ?_;rintro _ w1 ⟨g1, rfl, B1, hg1, ex⟩;have E1 := ex; have R1 : Row w1 w.heap.size 5 (cf g1) 0 0 [] := Row.new B1 hg1 rfl (by unfold maxLen; omega);refine ak (aL rfl) ?_;refine af (iA rfl rfl bV R1 (HA.ext E1).2 (by rw [List.length_map, HA.1]) aJ Om Om E1.size) rfl ?_;rintro _ w2 ⟨A2, c2, rfl, R2, be, gr, hl⟩;have E2 := E1.trans be;refine ak (di rfl) ?_;refine gD ?_;refine ae (hK4 ?_);refine oD ?_;exact aa4 rfl ⟨A2, c2, rfl, R2, E2⟩
section
variable {e : TypeId}
def RI (P : Program) (e : TypeId) (n : Nat) (qs : List (Nat × Value)) : Option (Array Value) :=
  match P.info? e with
  | some i => match i.zero with
    | some z => if n * i.size = 0 ∨ n * i.size > 2 ^ 24 then none else Instr.fill (fun k => some (k * i.size, i.size)) ((Array.range (n * i.size)).map (z.cells[· % z.cells.size]!)) qs
    | none => none
  | none => none
def SG (w : aa9) (e : TypeId) (n : Nat) (cs : Array Value) (v : Value) (w' : aa9) : Prop := ∃ g, v = .slice (cf g) n n ∧ aq w' g e cs ∧ w.heap.size ≤ g ∧ Ext w w'
theorem sM {ps : Array (Nat × Operand)} (hu : P.underlying t = some (.slice e)) (hx : Ss L ps.toList = some qs) (h : RI P e n qs = some cells) : Ef P L w (.buildSlice t n ps) ty (SG w e n cells) := Ef.run fun ρ hρ => by
  refine ⟨_, w.alloc (.cells cells e), ⟨w.heap.size, rfl, aq.new w e _, Nat.le_refl _, Ext.alloc w _⟩, fun dst pos after guard => ?_⟩;unfold RI at h
  cases hq : P.info? e with
  | none => simp [hq] at h
  | some i =>
    simp only [hq] at h
    cases hz : i.zero with
    | none => simp [hz] at h
    | some z =>
      simp only [hz] at h
      split at h
      · cases h
      rename_i hno
      have h0 : ¬ n * i.size = 0 := fun e => hno (.inl e)
      have h1 : ¬ n * i.size > 2 ^ 24 := fun e => hno (.inr e)
      have hr := run_buildSlice (P := P) w t e n (ps.map fun p => (p.1, ρ p.2)) cells i z hu hq hz h1 h0 (by rw [Array.toList_map, wT hρ ps.toList hx]; exact h)
      have e2 : (execOp ρ ⟨dst, .buildSlice t n ps, ty, pos, after, guard⟩) = (do pure (.value (← Instr.buildSlice t n (ps.map fun p => (p.1, ρ p.2))))) := rfl
      simp_all
end
theorem Ds (A : Oa) (n c : Nat) (xs : Lb) (w : aa9) (HA : Bs w A n xs) (hn : n ≤ 35184372088832) :
  Ct 100 #[.slice A n c] w fun e w' => ∃ A' c', e = .returned (.slice A' n c') ∧ Bs w' A' n xs ∧ (∀ b o, A' = some ⟨b, o, none⟩ → w.heap.size ≤ b) ∧ Ext w w' := by
 refine ai 8 func100 ?_;intro Q aa4;refine dB ?_; intro K1 hK1;refine dr ?_;refine ak (di rfl) ?_;refine gD ?_;refine ae (hK1 ?_);refine dB ?_; intro K2 hK2;refine dB ?_; intro K3 hK3;refine dr ?_;refine ak (aL rfl) ?_;refine ak (nF rfl rfl underlying23) ?_;refine gD ?_;refine ae (hK3 ?_);refine bw rfl (fun hc1 => ?_) (fun hc1 => ?_)
 ·skip;refine dB ?_; intro K4 hK4;refine dr ?_;refine ak (di rfl) ?_;refine gD ?_;refine ae (hK4 ?_);refine oD ?_;refine mv ?_;refine aa4 rfl ?_;obtain rfl : A = none := by simp_all
  have hn0 : n = 0 := by
   rcases Nat.eq_zero_or_pos n with h | h
   ·exact h
   obtain ⟨b, off, hA, _⟩ := HA.get h;cases hA
  subst hn0;exact ⟨none, 0, rfl, HA, fun _ _ h => (by cases h), Ext.refl _⟩
 skip;refine sA ?_;refine ae (hK2 ?_);refine dB ?_; intro K5 hK5;refine dr ?_;refine af (aF (z := .int .u8 0) underlying23 Kr rfl rfl rfl rfl rfl) rfl ?_;rintro _ w1 ⟨g1, rfl, B1, hg1, ex⟩;have E1 := ex; have R1 : Row w1 w.heap.size 5 (cf g1) 0 0 [] := Row.new B1 hg1 rfl Om;refine ak (aL rfl) ?_;refine af (iA rfl rfl bV R1 (HA.ext E1).2 (by rw [List.length_map, HA.1]) aJ Om Om E1.size) rfl ?_;rintro _ w2 ⟨A2, c2, rfl, R2, be, gr, hl⟩;have E2 := E1.trans be;refine ak (di rfl) ?_;refine gD ?_;refine ae (hK5 ?_);refine oD ?_;exact aa4 rfl ⟨A2, c2, rfl, R2.bs, fun b o h => (by subst h; exact (Row.lt R2).1), E2⟩
theorem yN (A : Oa) (n c : Nat) (xs : Lb) (w : aa9) (HA : Bs w A n xs) (hn : n ≤ 35184372088832) :
  Ct 100 #[.slice A n c] w fun e w' => ∃ A' c', e = .returned (.slice A' n c') ∧ n ≤ c' ∧ Bs w' A' n xs ∧ (∀ b o, A' = some ⟨b, o, none⟩ → w.heap.size ≤ b) ∧ Ext w w' := by
 refine ai 8 func100 ?_;intro Q aa4;refine dB ?_; intro K1 hK1;refine dr ?_;refine ak (di rfl) ?_;refine gD ?_;refine ae (hK1 ?_);refine dB ?_; intro K2 hK2;refine dB ?_; intro K3 hK3;refine dr ?_;refine ak (aL rfl) ?_;refine ak (nF rfl rfl underlying23) ?_;refine gD ?_;refine ae (hK3 ?_);refine bw rfl (fun hc1 => ?_) (fun hc1 => ?_)
 ·skip;refine dB ?_; intro K4 hK4;refine dr ?_;refine ak (di rfl) ?_;refine gD ?_;refine ae (hK4 ?_);refine oD ?_;refine mv ?_;refine aa4 rfl ?_;obtain rfl : A = none := by simp_all
  have hn0 : n = 0 := by
   rcases Nat.eq_zero_or_pos n with h | h
   ·exact h
   obtain ⟨b, off, hA, _⟩ := HA.get h;cases hA
  subst hn0;exact ⟨none, 0, rfl, Nat.le_refl _, HA, fun _ _ h => (by cases h), Ext.refl _⟩
 skip;refine sA ?_;refine ae (hK2 ?_);refine dB ?_; intro K5 hK5;refine dr ?_;refine af (aF (z := .int .u8 0) underlying23 Kr rfl rfl rfl rfl rfl) rfl ?_;rintro _ w1 ⟨g1, rfl, B1, hg1, ex⟩;have E1 := ex; have R1 : Row w1 w.heap.size 5 (cf g1) 0 0 [] := Row.new B1 hg1 rfl Om;refine ak (aL rfl) ?_;refine af (iA rfl rfl bV R1 (HA.ext E1).2 (by rw [List.length_map, HA.1]) aJ Om Om E1.size) rfl ?_;rintro _ w2 ⟨A2, c2, rfl, R2, be, gr, hl⟩;have E2 := E1.trans be;refine ak (di rfl) ?_;refine gD ?_;refine ae (hK5 ?_);refine oD ?_;exact aa4 rfl ⟨A2, c2, rfl, R2.cap, R2.bs, fun b o h => (by subst h; exact (Row.lt R2).1), E2⟩
end
section
open Go.RowKit
def rp : List (Nat × List Nat) → Nat → List Nat
 | [], _ => []
 | (k, l) :: M, i => cond (Nat.beq k i) l (rp M i)
def kX (M : List (Nat × List Nat)) (js : List Nat) : List Nat := js.foldr (fun j l => rp M j ++ l) []
theorem Co (hj : j ∈ js) (hk : k ∈ rp M j) : k ∈ kX M js := by
  induction js with
  | nil => cases hj
  | cons i js ih =>
    unfold kX
    rw [List.foldr_cons, List.mem_append]
    rcases List.mem_cons.1 hj with rfl | hj
    · exact .inl hk
    exact .inr (ih hj)
theorem ME (h : (M.map (·.1)).contains j = false) : rp M j = [] := by
  induction M with
  | nil => rfl
  | cons p M ih =>
    obtain ⟨k, l⟩ := p
    simp only [List.map_cons, List.contains_cons, Bool.or_eq_false_iff] at h
    unfold rp
    have hk : Nat.beq k j = false := by
      have h1 : j ≠ k := by simpa using h.1
      cases e : Nat.beq k j with
      | false => rfl
      | true => simp_all
    grind
section
def Uy (P : Program) (ops : Array Oper) (Q : Exit → Act → aa9 → Prop) (M : List (Nat × List Nat)) : Nat → Array Bool → Act → aa9 → Prop
 | 0, aa3, a, w => Region.ready .any ops aa3 = [] ∧ Q .normal a w
 | n + 1, aa3, a, w => (Region.ready .any ops aa3 = [] → Q .normal a w) ∧
   ∀ i ∈ Region.ready .any ops aa3, wpOp P ops Q i (fun a' w' => aI (rp M i) w w' ∧ Uy P ops Q M n (aa3.setIfInBounds i true) a' w') a w
theorem FQ : ∀ (n : Nat) (aa3 : Array Bool) (a : Act) (w : aa9), Uy P ops Q M n aa3 a w → wpAny P .any ops Q n aa3 a w
 | 0, _, _, _, h => h
 | n + 1, _, _, _, h => ⟨h.1, fun i hi => wpOp_mono (fun a' w' h' => FQ n _ a' w' h'.2) (h.2 i hi)⟩
theorem Ju (D : Nat → Bool) (hi : ops[i]? = some oi) (hsel : ∀ (j : Nat) (o : Oper) cs b, ops[j]? = some o → o.op ≠ .select cs b)
    (hQ : ∀ c a w, Q (.panic c) (a.put oi.dst v) w → Q (.panic c) a w) :
    ∀ (n : Nat) (aa3 : Array Bool) (a : Act) (w : aa9),
      (∀ j oj, ops[j]? = some oj → j ≠ i → aa3.getD j true = false → D j = true → ∃ e ∈ oj.after, Region.binds .any e = true ∧ (e.on = i ∨ D e.on = true ∧ aa3.getD e.on true = false)) →
      (∀ j oj, ops[j]? = some oj → j ≠ i → aa3.getD j true = false → D j = false → oi.apart ops oj = true ∧ ∀ k ∈ rp M j, k ∈ U) →
      i ∈ Region.ready .any ops aa3 → YieldsIf P ops (fun w' => aI U w w') oi v a →
      Uy P ops Q M n (aa3.setIfInBounds i true) (a.put oi.dst v) w → Uy P ops Q M (n + 1) aa3 a w := by
  intro n
  induction n with
  | zero =>
    intro aa3 a w _ _ hr hy H
    refine ⟨fun h => (by grind), fun j hj => ?_⟩
    by_cases hji : j = i
    · subst hji; exact hy.wpOp hi (aI.refl U w) ⟨aI.refl _ w, H⟩
    have := ready_mono hj hji
    rw [H.1] at this
    cases this
  | succ n ih =>
    intro aa3 a w hdep hfree hr hy H
    refine ⟨fun h => (by grind), fun j hj => ?_⟩
    by_cases hji : j = i
    · subst hji; exact hy.wpOp hi (aI.refl U w) ⟨aI.refl _ w, H⟩
    have h1 := H.2 j (ready_mono hj hji)
    obtain ⟨hjun, oj, hoj, hall⟩ := mem_ready.1 hj
    have hDj : D j = false := by
      cases hd : D j with
      | false => rfl
      | true =>
        exfalso
        obtain ⟨e, he, hb, hor⟩ := hdep j oj hoj hji hjun hd
        have h1 := hall e he hb
        rcases hor with heq | ⟨_, hun⟩
        · have h0 := (mem_ready.1 hr).1
          grind
        grind
    obtain ⟨hap, hU⟩ := hfree j oj hoj hji hjun hDj
    have h2 := wpOp_putIf hoj hap (fun cs b => hsel i oi cs b hi) (fun cs b => hsel j oj cs b hoj) hQ hy h1
    have back : ∀ k, (aa3.setIfInBounds j true).getD k true = false → aa3.getD k true = false := fun k hun => by
      by_cases hjk : j = k
      · grind
      simp_all
    have hdep' : ∀ k ok, ops[k]? = some ok → k ≠ i → (aa3.setIfInBounds j true).getD k true = false → D k = true → ∃ e ∈ ok.after, Region.binds .any e = true ∧ (e.on = i ∨ D e.on = true ∧ (aa3.setIfInBounds j true).getD e.on true = false) := fun k ok hk hki hun hd => by
      obtain ⟨e, he, hb, hor⟩ := hdep k ok hk hki (back k hun) hd;refine ⟨e, he, hb, hor.imp id fun ⟨h3, h4⟩ => ⟨h3, ?_⟩⟩;have hne : j ≠ e.on := by grind
      simp_all
    have hfree' : ∀ k ok, ops[k]? = some ok → k ≠ i → (aa3.setIfInBounds j true).getD k true = false → D k = false → oi.apart ops ok = true ∧ ∀ q ∈ rp M k, q ∈ U := fun k ok hk hki hun hd =>
      hfree k ok hk hki (back k hun) hd
    refine wpOp_mono (fun a' w' h3 => ?_) h2
    obtain ⟨hy', hx, hrest⟩ := h3
    refine ⟨hx, ih (aa3.setIfInBounds j true) a' w' hdep' hfree' (ready_mono hr (Ne.symm hji)) (hy'.imp (fun ⟨q1, q2⟩ => ⟨q1, fun w2 e2 => q2 w2 ((hx.mono hU).tr e2)⟩) id) ?_⟩
    rw [Array.setIfInBounds_comm _ _ hji]
    exact hrest
def WJ (P : Program) (ops : Array Oper) (Q : Exit → Act → aa9 → Prop) (M : List (Nat × List Nat)) (n : Nat) (aa3 : Array Bool) (N : Nd) (L : List (Nat × Value)) (w : aa9) : Prop := ∀ a, Fr N L a → Uy P ops Q M n aa3 a w
theorem jH (M : List (Nat × List Nat)) {l : List Oper} (hm : P.follows .mixedOrders = true) (n : Nat) (hn : l.length = n) (h : ∀ w', Ext w w' → w'.heap = w.heap → WJ P l.toArray (fD Q) M n (Array.replicate n false) N L w') : WC P Q (.region id l.toArray true) N L w := by
 intro a ha;subst hn
 have h1 : (Code.region id l.toArray true).wp P (fD Q) a w := by refine wp_region_any hm (FQ (M := M) _ _ _ _ ?_);rw [List.size_toArray];exact h _ (Ext.drew w) rfl a ha
 refine wp_mono h1 fun e a w hq => ?_;cases e <;> first | exact hq | exact hq.elim
theorem jR (hr : Region.ready .any ops aa3 = []) (h : WQ Q .normal N L w) : WJ P ops Q M n aa3 N L w := by
 intro a ha
 cases n with
 | zero => exact ⟨hr, h a ha⟩
 | succ n => exact ⟨fun _ => h a ha, by rw [hr]; simp⟩
def pN (ks pre : List Nat) (md : Region.Mode) (ops : Array Oper) (aa3 : Array Bool) (i : Nat) (D : List Bool) : Bool :=
 Region.noSelect ops && (match ops[i]? with
  | none => false
  | some oi => (List.range ops.size).all fun j => j == i || (aa3.getD j true || (match ops[j]? with
    | none => true
    | some oj => cond (D.getD j false) (oj.after.any fun e => Region.binds md e && (e.on == i || (D.getD e.on false && !aa3.getD e.on true))) (oi.apart ops oj && (pre.contains j || !ks.contains j))))) && (Region.ready md ops aa3).contains i
theorem P9 (pre : List Nat) (hi : ops[i]? = some oi) (hf : pN (M.map (·.1)) pre .any ops aa3 i (fU .any ops aa3 i) = true)
  (hy : ∀ a, Fr N L a → YieldsIf P ops (fun w' => aI (kX M pre) w w') oi v a) (hd : gV N oi.dst = true) (h : WJ P ops (fD Q) M n (aa3.setIfInBounds i true) N (bB oi.dst v L) w) : WJ P ops (fD Q) M (n + 1) aa3 N L w := by
 intro a ha;generalize fU .any ops aa3 i = D at hf;simp only [pN, hi, Bool.and_eq_true, List.all_eq_true, List.mem_range, Bool.or_eq_true, beq_iff_eq] at hf;obtain ⟨⟨h1, h2⟩, h4⟩ := hf
 have key : ∀ j oj, ops[j]? = some oj → j ≠ i → aa3.getD j true = false → cond (D.getD j false) (oj.after.any fun e => Region.binds .any e && (e.on == i || (D.getD e.on false && !aa3.getD e.on true))) (oi.apart ops oj && (pre.contains j || !(M.map (·.1)).contains j)) = true := fun j oj hj hne hun => by grind
 refine Ju (U := kX M pre) (fun j => D.getD j false) hi (Region.noSelect_spec h1) (fun c a w h => h) n aa3 a w (fun j oj hj hne hun hd => ?_) (fun j oj hj hne hun hd => ?_) (by simpa using h4) (hy a ha) (h _ (ha.mf hd v))
 ·grind
 have k := key j oj hj hne hun;rw [hd, cond_false, Bool.and_eq_true, Bool.or_eq_true] at k;refine ⟨k.1, fun q hq => ?_⟩;rcases k.2 with k2 | k2
 ·exact Co (by simpa using k2) hq
 rw [ME (by simpa using k2)] at hq; cases hq
theorem VC (i : Nat) (pre : List Nat) (hi : ops[i]? = some ⟨dst, op, ty, pos, after, none⟩) (hf : pN (M.map (·.1)) pre .any ops aa3 i (fU .any ops aa3 i) = true) (h : ∀ w', aI (kX M pre) w w' → Y P L w' op ty v) (hd : gV N dst = true)
  (hr : WJ P ops (fD Q) M n (aa3.setIfInBounds i true) N (bB dst v L) w) : WJ P ops (fD Q) M (n + 1) aa3 N L w :=
 P9 pre hi hf (fun a ha => .inl ⟨rfl, fun w' e => h w' e a.eval (fun _ _ hx => ha.ev hx) w' (Ext.refl w') _ _ _ _⟩) hd hr
def iC (P : Program) (ops : Array Oper) (Q : Exit → Act → aa9 → Prop) (M : List (Nat × List Nat)) (n : Nat) (aa3 : Array Bool) (i : Nat) (N : Nd) (L : List (Nat × Value)) (w : aa9) : Prop :=
 ∀ a, Fr N L a → wpOp P ops Q i (fun a' w' => aI (rp M i) w w' ∧ Uy P ops Q M n (aa3.setIfInBounds i true) a' w') a w
theorem LC (rs : List Nat) (hr : Region.ready .any ops aa3 = rs) (hne : rs.isEmpty = false) (h : ∀ i ∈ rs, iC P ops Q M n aa3 i N L w) : WJ P ops Q M (n + 1) aa3 N L w := by intro a ha;refine ⟨fun h0 => ?_, fun i hi => h i (hr ▸ hi) a ha⟩;grind
theorem fm (i : Nat) (hr : Region.ready .any ops aa3 = [i]) (h : iC P ops Q M n aa3 i N L w) : WJ P ops Q M (n + 1) aa3 N L w :=
 LC [i] hr rfl (fun k hk => by grind)
theorem SD (i j : Nat) (hr : Region.ready .any ops aa3 = [i, j]) (h : iC P ops Q M n aa3 i N L w) (h' : iC P ops Q M n aa3 j N L w) : WJ P ops Q M (n + 1) aa3 N L w :=
 LC [i, j] hr rfl (fun k hk => by
  grind)
theorem iF {Φ : Value → aa9 → Prop} (hi : ops[i]? = some ⟨dst, op, ty, pos, after, none⟩) (h : Ef P L w op ty Φ) (hd : gV N dst = true)
  (hr : ∀ v w', Φ v w' → aI (rp M i) w w' ∧ WJ P ops Q M n (aa3.setIfInBounds i true) N (bB dst v L) w') : iC P ops Q M n aa3 i N L w := by
 intro a ha;unfold wpOp;simp only [hi];rw [if_pos (by simp [Region.wanted])];exact .inl (h a N ha _ _ _ _ _ _ fun v w' hv => ⟨(hr v w' hv).1, (hr v w' hv).2 _ (ha.mf hd v)⟩)
variable {f : FuncId} {xs : List Operand} {R : Ending → aa9 → Prop} {c : Code}
theorem Gk (hi : ops[i]? = some ⟨dst, .call { callee := .value (.func f), args := xs.toArray, argTypes := ats }, ty, pos, after, none⟩) (hf : P.funcs[f]? = some fn) (hb : fn.body = some c) (hn : (fn.name == "runtime.NumGoroutine") = false) (hx : oY L xs = some vs) (h : Calls P f vs.toArray w R) (hd : gV N dst = true)
  (hr : ∀ e w', R e w' → ∃ v, e = .returned v ∧ aI (rp M i) w w' ∧ WJ P ops Q M n (aa3.setIfInBounds i true) N (bB dst v L) w') : iC P ops Q M n aa3 i N L w :=
 iF hi (jD hf hb hn hx h hr) hd fun _ _ hv => hv
end
theorem uM (i : Nat) (pre : List Nat) (hi : ops[i]? = some ⟨dst, op, ty, pos, after, none⟩) (h : ∀ w', aI (kX M pre) w w' → Y P L w' op ty v) (hr : WJ P ops (fD Q) M n (aa3.setIfInBounds i true) N (bB dst v L) w)
 (hf : pN (M.map (·.1)) pre .any ops aa3 i (fU .any ops aa3 i) = true := by kernel_rfl) (hd : gV N dst = true := by exact rfl) : WJ P ops (fD Q) M (n + 1) aa3 N L w := VC i pre hi hf h hd hr
end
open Go.RowKit Tryz
class Tn (t : TypeId) (s : outParam Nat) (d : outParam TypeDesc) (i : outParam TypeInfo) : Prop where
 o : Tryz.prog.types[t]? = some i
 s : i.size = s
 u : Tryz.prog.underlying t = some d
theorem VQ {i : TypeInfo} {β : Type} {f : TypeInfo → β} {s : β} (h : P.types[t]? = some i) (e : f i = s) : (P.info? t).map f = some s := by have ht : t < P.types.size := (Array.getElem?_eq_some_iff.1 h).1;unfold Tables.info?; rw [if_pos ht, h]; exact congrArg some e
theorem tz {t s d i} [h : Tn t s d i] : (Tryz.prog.info? t).map (·.size) = some s := VQ h.o h.s
theorem WH {t s d i} [h : Tn t s d i] (e : cs.size = s) : (Tryz.prog.info? t).map (·.size) = some cs.size := VQ h.o (h.s.trans e.symm)
theorem YA {t s d i} [h : Tn t s d i] (e : i.zero = some (.agg Z)) : (Tryz.prog.info? t).map (fun i => i.zero.map (·.cells)) = some (some Z) := VQ h.o (by rw [e]; rfl)
theorem YE {t s d i v} [h : Tn t s d i] (e : i.zero = some v) (e' : v.cells = #[v]) : (Tryz.prog.info? t).map (fun i => i.zero.map (·.cells)) = some (some #[v]) := VQ h.o (by rw [e]; exact congrArg some e')
def SQ (P : Program) (fs : Array Field) (os : List Nat) : Bool := fs.toList.map (·.offset) == os && fs.toList.all fun f => ((P.info? f.type).map fun i => i.size == 0) == some false
class Fs (t : TypeId) (os : outParam (List Nat)) : Prop where
 f : ∃ fs, Tryz.prog.underlying t = some (.struct fs) ∧ SQ Tryz.prog fs os = true
theorem uL {fs : Array Field} (u : Tryz.prog.underlying t = some (.struct fs)) (h : SQ Tryz.prog fs os = true := by kernel_rfl) : Fs t os := ⟨fs, u, h⟩
theorem Yw {b off : Nat} [h : Fs t os] (hx : ev L x = some (.pointer (some ⟨b, off, none⟩))) (ho : os[i]? = some o) :
  Y Tryz.prog L w (.fieldAddr t x i) ty (.pointer (some ⟨b, off + o, none⟩)) := by
 obtain ⟨fs, hu, hb⟩ := h.f;unfold SQ at hb;simp only [Bool.and_eq_true, beq_iff_eq, List.all_eq_true] at hb;obtain ⟨e, ha⟩ := hb;subst e;rw [List.getElem?_map] at ho;obtain ⟨f, hf, rfl⟩ := Option.map_eq_some_iff.1 ho;have h1 := ha f (List.mem_of_getElem? hf)
 cases hs : Tryz.prog.info? f.type with
 | none => rw [hs] at h1; cases h1
 | some j =>
  rw [hs] at h1
  exact rV (ft := f.type) (s := j.size) hx hu (by rw [← Array.getElem?_toList, hf]; rfl) (by rw [hs]; rfl) (by injection h1) rfl
instance : Tn 3 1 t3.desc t3 := ⟨type3, rfl, underlying3⟩
instance : Tn 4 1 t4.desc t4 := ⟨type4, rfl, underlying4⟩
instance : Tn 5 1 t5.desc t5 := ⟨type5, rfl, underlying5⟩
instance : Tn 9 1 t9.desc t9 := ⟨type9, rfl, underlying9⟩
instance : Tn 22 1 t22.desc t22 := ⟨type22, rfl, underlying22⟩
instance : Tn 23 1 t23.desc t23 := ⟨type23, rfl, underlying23⟩
instance : Tn 25 2 t24.desc t25 := ⟨type25, rfl, underlying25⟩
instance : Tn 27 6 t26.desc t27 := ⟨type27, rfl, underlying27⟩
instance : Tn 29 8 t28.desc t29 := ⟨type29, rfl, underlying29⟩
instance : Tn 35 2 t34.desc t35 := ⟨type35, rfl, underlying35⟩
instance : Tn 37 3 t36.desc t37 := ⟨type37, rfl, underlying37⟩
instance : Tn 38 1 t38.desc t38 := ⟨type38, rfl, underlying38⟩
instance : Tn 40 4 t39.desc t40 := ⟨type40, rfl, underlying40⟩
instance : Tn 42 7 t41.desc t42 := ⟨type42, rfl, underlying42⟩
instance : Tn 44 12 t43.desc t44 := ⟨type44, rfl, underlying44⟩
instance : Tn 46 20 t45.desc t46 := ⟨type46, rfl, underlying46⟩
instance : Tn 47 1 t5.desc t47 := ⟨type47, rfl, underlying47⟩
instance : Tn 51 3 t50.desc t51 := ⟨type51, rfl, underlying51⟩
instance : Tn 56 1 t56.desc t56 := ⟨type56, rfl, underlying56⟩
instance : Tn 58 1 t58.desc t58 := ⟨type58, rfl, underlying58⟩
instance : Tn 59 1 t59.desc t59 := ⟨type59, rfl, underlying59⟩
instance : Tn 68 9 t67.desc t68 := ⟨type68, rfl, underlying68⟩
instance : Tn 77 2 t76.desc t77 := ⟨type77, rfl, underlying77⟩
instance : Tn 127 1 t127.desc t127 := ⟨type127, rfl, underlying127⟩
instance : Tn 132 5 t132.desc t132 := ⟨type132, rfl, underlying132⟩
instance : Tn 134 5 t133.desc t134 := ⟨type134, rfl, underlying134⟩
instance : Tn 136 21 t135.desc t136 := ⟨type136, rfl, underlying136⟩
instance : Tn 139 4 t139.desc t139 := ⟨type139, rfl, underlying139⟩
instance : Tn 141 4 t140.desc t141 := ⟨type141, rfl, underlying141⟩
instance : Tn 154 1 t154.desc t154 := ⟨type154, rfl, underlying154⟩
instance : Tn 157 1 t157.desc t157 := ⟨type157, rfl, underlying157⟩
instance : Tn 159 2 t158.desc t159 := ⟨type159, rfl, underlying159⟩
instance : Tn 177 1 t177.desc t177 := ⟨type177, rfl, underlying177⟩
instance : Tn 185 1 t185.desc t185 := ⟨type185, rfl, underlying185⟩
instance : Tn 189 1 t189.desc t189 := ⟨type189, rfl, underlying189⟩
instance : Tn 209 2 t208.desc t209 := ⟨type209, rfl, underlying209⟩
instance : Tn 212 1 t212.desc t212 := ⟨type212, rfl, underlying212⟩
instance : Tn 214 2 t213.desc t214 := ⟨type214, rfl, underlying214⟩
instance : Tn 220 2 t219.desc t220 := ⟨type220, rfl, underlying220⟩
instance : Tn 227 1 t227.desc t227 := ⟨type227, rfl, underlying227⟩
instance : Tn 239 1 t239.desc t239 := ⟨type239, rfl, underlying239⟩
instance : Tn 241 2 t240.desc t241 := ⟨type241, rfl, underlying241⟩
instance : Tn 242 10 t242.desc t242 := ⟨type242, rfl, underlying242⟩
instance : Tn 256 32 t256.desc t256 := ⟨type256, rfl, underlying256⟩
instance : Tn 259 1 t259.desc t259 := ⟨type259, rfl, underlying259⟩
instance : Tn 263 2 t262.desc t263 := ⟨type263, rfl, underlying263⟩
instance : Tn 265 256 t265.desc t265 := ⟨type265, rfl, underlying265⟩
instance : Tn 275 64 t275.desc t275 := ⟨type275, rfl, underlying275⟩
instance : Tn 284 8 t284.desc t284 := ⟨type284, rfl, underlying284⟩
instance : Tn 294 8 t294.desc t294 := ⟨type294, rfl, underlying294⟩
instance : Tn 296 80 t296.desc t296 := ⟨type296, rfl, underlying296⟩
instance : Tn 300 10 t299.desc t300 := ⟨type300, rfl, underlying300⟩
instance : Tn 305 64 t305.desc t305 := ⟨type305, rfl, underlying305⟩
instance : Tn 309 1 t309.desc t309 := ⟨type309, rfl, underlying309⟩
instance : Fs 25 [0, 1] := uL underlying25
instance : Fs 27 [0, 1, 2, 3, 4, 5] := uL underlying27
instance : Fs 29 [0, 1, 7] := uL underlying29
instance : Fs 35 [0, 1] := uL underlying35
instance : Fs 37 [0, 1] := uL underlying37
instance : Fs 40 [0, 1, 2, 3] := uL underlying40
instance : Fs 42 [0, 4, 5, 6] := uL underlying42
instance : Fs 44 [0, 1, 2, 3, 4, 5, 6, 7, 8, 9, 10, 11] := uL underlying44
instance : Fs 46 [0, 7, 19] := uL underlying46
instance : Fs 51 [0, 1, 2] := uL underlying51
instance : Fs 68 [0, 8] := uL underlying68
instance : Fs 77 [0, 1] := uL underlying77
instance : Fs 134 [0] := uL underlying134
instance : Fs 136 [0, 5, 10, 15, 20] := uL underlying136
instance : Fs 141 [0] := uL underlying141
instance : Fs 159 [0, 1] := uL underlying159
instance : Fs 209 [0, 1] := uL underlying209
instance : Fs 214 [0, 1] := uL underlying214
instance : Fs 220 [0, 1] := uL underlying220
instance : Fs 241 [0, 1] := uL underlying241
instance : Fs 263 [0, 1] := uL underlying263
instance : Fs 300 [0, 5] := uL underlying300
section
theorem Yz {p : Prop} {i : Decidable p} (h : Y P L w op ty (.bool (@decide p i))) (hp : p) : Y P L w op ty (.bool true) := by rw [decide_eq_true hp] at h; exact h
theorem YB {p : Prop} {i : Decidable p} (h : Y P L w op ty (.bool (@decide p i))) (hp : ¬ p) : Y P L w op ty (.bool false) := by rw [decide_eq_false hp] at h; exact h
theorem yc {p : Prop} {i : Decidable p} (h : Y P L w op ty (.bool (@decide p i)) := by first | exact fB rfl rfl | exact kg rfl rfl | exact ez rfl rfl | exact yI rfl rfl | exact vP rfl rfl | exact RL rfl rfl) : Y P L w op ty (.bool (@decide p i)) := h
theorem Ya {x : Operand} {g i : Nat} {t e : TypeId} {cs : Array Value} {d : TypeDesc} (hx : ev L x = some (.pointer (some ⟨g, i, none⟩))) (hu : P.underlying t = some d) (hd : (match d with | .struct _ | .array _ _ => false | _ => true) = true) (B : aq w g e cs) (hv : cs[i]? = some v) : Y P L w (.load t x) ty v := ah hx hu hd (B.get hv)
theorem YO {x : Operand} {g : Nat} {t e : TypeId} {cs : Array Value} {d : TypeDesc} (hx : ev L x = some (.pointer (cf g))) (hu : P.underlying t = some d) (hd : (match d with | .struct _ | .array _ _ => true | _ => false) = true) (B : aq w g e cs) (hs : (P.info? t).map (·.size) = some cs.size) : Y P L w (.load t x) ty (.agg cs) := aP hx hu hd hs B
theorem UN {w : aa9} {b : Nat} (c : aI S w w') (h : aq w b t cs) (hb : b ∉ S := by first | (simp [kX, rp]; done) | (simp [kX, rp]; omega)) : aq w' b t cs := h.bD c hb
theorem YR (h : Y P L w (.load t x) ty v) : Y P L w (.load t x) ty v := h
theorem YH {o t x y t'} (h : Y P L w (.binOp o t x y t') ty v) : Y P L w (.binOp o t x y t') ty v := h
theorem Yj {c} (h : Y P L w (.call c) ty v) : Y P L w (.call c) ty v := h
theorem YD {t x y} (h : Y P L w (.indexAddr t x y) ty v) : Y P L w (.indexAddr t x y) ty v := h
theorem YK {t x y} (h : Y P L w (.convert t x y) ty v) : Y P L w (.convert t x y) ty v := h
theorem Ws {t x} {p : Bool} (hx : ev L x = some (.bool p)) (hp : p = true) : Y P L w (.unOp .not t x) ty (.bool false) := by subst hp; exact pY hx
theorem Xx {t x} {p : Bool} (hx : ev L x = some (.bool p)) (hp : p = false) : Y P L w (.unOp .not t x) ty (.bool true) := by subst hp; exact pY hx
theorem ay (h : Y P L w op ty v := by first
 | exact aL rfl
 | exact di rfl
 | (apply YR
    first
    | exact Ya rfl Tn.u rfl (by assumption) (by exact rfl)
    | exact YO rfl Tn.u rfl (by assumption) (by first | exact WH rfl | exact WH (FE.size (by assumption)))
    | exact xE rfl Tn.u rfl tz (by assumption) (by exact rfl)
    | exact Ya rfl Tn.u rfl (UN (by assumption) (by assumption)) (by exact rfl)
    | exact xE rfl Tn.u rfl tz (UN (by assumption) (by assumption)) (by exact rfl)
    | exact ah rfl Tn.u rfl (by assumption))
 | (apply YH
    first
    | exact Yz yc Om
    | exact YB yc Om
    | exact yc
    | exact aO rfl rfl (bj Om Om)
    | exact fG rfl rfl (bj Om Om)
    | exact cS rfl rfl (bj Om Om))
 | exact cM rfl rfl
 | exact Yw rfl rfl
 | (apply Yj
    exact rH rfl Tn.u)
 | exact NP rfl
 | exact QA rfl rfl
 | exact Qs rfl rfl
 | exact Ws rfl (by with_reducible rfl)
 | exact Xx rfl (by with_reducible rfl)
 | exact pY rfl
 | (apply YD
    first
    | exact aC rfl rfl Tn.u tz rfl Om
    | exact bM rfl rfl Tn.u tz rfl Om)
 | (apply YK
    first
    | exact bc rfl Tn.u Tn.u (bj Om Om)
    | exact bc rfl Tn.u Tn.u (IntWalk.u64_in _ ⟨Om, Om⟩))) : Y P L w op ty v := h
end
structure Wt (l : List Nat) (p : Prop) : Prop where o : p
theorem BL (l : List Nat) {p : Prop} (h : Wt l p) : p := h.o
structure Wu (l : List (Nat × List Nat)) (p : Prop) : Prop where o : p
theorem zr (l : List (Nat × List Nat)) {p : Prop} (h : Wu l p) : p := h.o
section
variable {b : Bool}
theorem TD {p : Prop} (h : p) : Wt [] p := ⟨h⟩
theorem SP {p : Prop} (h : p) : Wu [] p := ⟨h⟩
theorem WO (hi : ops[i]? = some ⟨dst, op, ty, pos, after, none⟩) (hf : iT .any ops aa3 i = true) (h : Y P L w op ty v) (hd : gV N dst = true) (hr : Wt l (WM P ops (fD Q) n (aa3.setIfInBounds i true) N (bB dst v L) w)) : Wt (i :: l) (WM P ops (fD Q) (n + 1) aa3 N L w) := ⟨QH i hi hf h hd hr.o⟩
theorem XK (hi : ops[i]? = some ⟨dst, op, ty, pos, after, none⟩) (hf : nR .any ops aa3 i = true) (h : ∀ w0, Y P L w0 op ty v) (hd : gV N dst = true) (hr : Wt l (WM P ops (fD Q) n (aa3.setIfInBounds i true) N (bB dst v L) w)) : Wt (i :: l) (WM P ops (fD Q) (n + 1) aa3 N L w) := ⟨UG i hi hf h hd hr.o⟩
theorem UJ (t : Tmp) (hi : ops[i]? = some ⟨dst, op, ty, pos, after, some (j, b)⟩) (hf : iT .any ops aa3 i = true) (hj : (ops[j]?).bind (·.dst) = some t) (ht : look L t = some (.bool b')) (hb : b' = b) (h : Y P L w op ty v) (hd : gV N dst = true) (hr : Wt l (WM P ops (fD Q) n (aa3.setIfInBounds i true) N (bB dst v L) w)) : Wt (i :: l) (WM P ops (fD Q) (n + 1) aa3 N L w) := ⟨kC i hi hf t hj (hb ▸ ht) h hd hr.o⟩
theorem SO (t : Tmp) (hi : ops[i]? = some ⟨dst, op, ty, pos, after, some (j, true)⟩) (hf : iT .any ops aa3 i = true) (hj : (ops[j]?).bind (·.dst) = some t) (ht : look L t = some (.bool b)) (hb : b = false) (hd : gV N dst = true) (hr : Wt l (WM P ops (fD Q) n (aa3.setIfInBounds i true) N (bB dst undef L) w)) : Wt (i :: l) (WM P ops (fD Q) (n + 1) aa3 N L w) := ⟨Ki i hi hf t hj (hb ▸ ht) rfl hd hr.o⟩
theorem Um (t : Tmp) (hi : ops[i]? = some ⟨dst, op, ty, pos, after, some (j, false)⟩) (hf : iT .any ops aa3 i = true) (hj : (ops[j]?).bind (·.dst) = some t) (ht : look L t = some (.bool b)) (hb : b = true) (hd : gV N dst = true) (hr : Wt l (WM P ops (fD Q) n (aa3.setIfInBounds i true) N (bB dst undef L) w)) : Wt (i :: l) (WM P ops (fD Q) (n + 1) aa3 N L w) := ⟨Ki i hi hf t hj (hb ▸ ht) rfl hd hr.o⟩
theorem YQ {d : Tmp} (t : Tmp) (hj : (ops[j]?).bind (·.dst) = some t) (ht : look L t = some (.bool b')) (hb : b' = b) (h : Y P L w op ty v) (hd : Nat.ble (d + 1) N.n = true) (hr : WL P ops Q rest N ((d, v) :: L) w) : WL P ops Q (⟨some d, op, ty, pos, after, some (j, b)⟩ :: rest) N L w := GJ t hj (hb ▸ ht) h hd hr
theorem Wn (t : Tmp) (hj : (ops[j]?).bind (·.dst) = some t) (ht : look L t = some (.bool b)) (hb : b = false) (hd : gV N dst = true) (hr : WL P ops Q rest N (bB dst undef L) w) : WL P ops Q (⟨dst, op, ty, pos, after, some (j, true)⟩ :: rest) N L w := MH t hj (hb ▸ ht) rfl hd hr
theorem XE (t : Tmp) (hj : (ops[j]?).bind (·.dst) = some t) (ht : look L t = some (.bool b)) (hb : b = true) (hd : gV N dst = true) (hr : WL P ops Q rest N (bB dst undef L) w) : WL P ops Q (⟨dst, op, ty, pos, after, some (j, false)⟩ :: rest) N L w := MH t hj (hb ▸ ht) rfl hd hr
end
section
variable {b : Bool}
theorem Wq (hi : ops[i]? = some ⟨dst, op, ty, pos, after, none⟩) (hf : nR .any ops aa3 i = true) (h : Y P L w0 op ty v) (hd : gV N dst = true) (hr : Wt l (WN P ops (fD Q) w0 n (aa3.setIfInBounds i true) N (bB dst v L) w)) : Wt (i :: l) (WN P ops (fD Q) w0 (n + 1) aa3 N L w) := ⟨dz i hi hf h hd hr.o⟩
theorem V6 (hi : ops[i]? = some ⟨dst, op, ty, pos, after, none⟩) (hf : pN (M.map (·.1)) pre .any ops aa3 i (fU .any ops aa3 i) = true) (h : ∀ w', aI (kX M pre) w w' → Y P L w' op ty v) (hd : gV N dst = true) (hr : Wu l' (WJ P ops (fD Q) M n (aa3.setIfInBounds i true) N (bB dst v L) w)) : Wu ((i, pre) :: l') (WJ P ops (fD Q) M (n + 1) aa3 N L w) := ⟨VC i pre hi hf h hd hr.o⟩
end
section
variable {l : List Oper} {a b c d e f g p} {c' : Code}
theorem XO (h : WL P ops Q (⟨a, b, c, d, e, none⟩ :: l) N L w) : WL P ops Q (⟨a, b, c, d, e, none⟩ :: l) N L w := h
theorem VX (h : WL P ops Q (⟨a, b, c, d, e, some f⟩ :: l) N L w) : WL P ops Q (⟨a, b, c, d, e, some f⟩ :: l) N L w := h
theorem WV {t x} (h : WL P ops Q (⟨a, .box t x, c, d, e, none⟩ :: l) N L w) : WL P ops Q (⟨a, .box t x, c, d, e, none⟩ :: l) N L w := h
theorem WS {t} (h : WL P ops Q (⟨a, .alloc t, c, d, e, none⟩ :: l) N L w) : WL P ops Q (⟨a, .alloc t, c, d, e, none⟩ :: l) N L w := h
theorem XL {t x y} (h : WL P ops Q (⟨a, .store t x y, c, d, e, none⟩ :: l) N L w) : WL P ops Q (⟨a, .store t x y, c, d, e, none⟩ :: l) N L w := h
theorem XS (h : WC P Q c' N L w) : WC P Q c' N L w := h
theorem XM (h : WQ Q g N L w) : WQ Q g N L w := h
theorem Wz (h : WM P ops Q n f N L w) : WM P ops Q n f N L w := h
theorem VV (h : Wt g p) : Wt g p := h
theorem VY (h : Wu g p) : Wu g p := h
end
section
variable {e : TypeId} {g : Nat}
theorem Yu (hx : ev L x = some (.agg cs)) (hd : gV N dst = true) (hr : ∀ w' g, aq w' g t cs → w.heap.size ≤ g → Ext w w' → WL P ops Q rest N (bB dst (.pointer (cf g)) L) w') : WL P ops Q (⟨dst, .box t x, ty, pos, after, none⟩ :: rest) N L w :=
 af (mw hx rfl) hd (by rintro _ w' ⟨g, rfl, B, h, e⟩; exact hr w' g B h e)
theorem YN (hx : ev L x = some v) (hd : gV N dst = true) (hr : ∀ w' g, aq w' g t v.cells → w.heap.size ≤ g → Ext w w' → WL P ops Q rest N (bB dst (.pointer (cf g)) L) w') : WL P ops Q (⟨dst, .box t x, ty, pos, after, none⟩ :: rest) N L w :=
 af (mw hx rfl) hd (by rintro _ w' ⟨g, rfl, B, h, e⟩; exact hr w' g B h e)
theorem XY (hz : (P.info? t).map (fun i => i.zero.map (·.cells)) = some (some cs)) (hd : gV N dst = true) (hr : ∀ w' g, aq w' g t cs → w.heap.size ≤ g → Ext w w' → WL P ops Q rest N (bB dst (.pointer (cf g)) L) w') : WL P ops Q (⟨dst, .alloc t, ty, pos, after, none⟩ :: rest) N L w :=
 af (dG hz) hd (by rintro _ w' ⟨g, rfl, B, h, e⟩; exact hr w' g B h e)
theorem YC (hx : ev L x = some (.pointer (some ⟨g, i, none⟩))) (hy : ev L y = some v) (h1 : v.oneCell' = true) (hs : (P.info? t).map (·.size) = some 1) (hg : aq w g e cs) (hi : i < cs.size) (hd : gV N dst = true) (hr : ∀ w', aq w' g e (cs.setIfInBounds i v) → mi w g w' → WL P ops Q rest N (bB dst undef L) w') : WL P ops Q (⟨dst, .store t x y, ty, pos, after, none⟩ :: rest) N L w :=
 af (az hx hy h1 hs hg hi) hd (by rintro _ w' ⟨rfl, B, c⟩; exact hr w' B c)
theorem Ys (hx : ev L x = some (.pointer (some ⟨g, o, none⟩))) (hy : ev L y = some (.agg cs)) (hs : (P.info? t).map (·.size) = some cs.size) (hg : aq w g e old) (ho : o + cs.size ≤ old.size) (h1 : cs.all (·.oneCell') = true) (hd : gV N dst = true) (hr : ∀ w', aq w' g e (old.toList.take o ++ cs.toList ++ old.toList.drop (o + cs.size)).toArray → mi w g w' → WL P ops Q rest N (bB dst undef L) w') : WL P ops Q (⟨dst, .store t x y, ty, pos, after, none⟩ :: rest) N L w :=
 af (bI hx hy hs hg ho h1) hd (by rintro _ w' ⟨rfl, B, c⟩; exact hr w' B c)
end
section
variable {fl : List Fl} {f : FuncId} {xs : List Operand} {c : Code}
theorem Rj {p : Prop} (h : p := by
 repeat (first
  | exact av
  | refine aN ?_ ?_
  | exact br rfl Kr
  | exact Au (z := .int .u8 0) rfl Tn.u Kr rfl rfl rfl rfl rfl
  | exact ⟨rfl, aa2 rfl⟩
  | exact aQ Kr
  | exact aa2 rfl)) : p := h
theorem j9 (j : Nat) (dst : Option Tmp) (hf : P.funcs[f]? = some fn) (h : ∀ w1, Ext w w1 → Ext w0 w1 → ∃ R : Ending → aa9 → Prop, Calls P f vs.toArray w1 R ∧ ∀ e w', R e w' → ∃ v, e = .returned v ∧ Ext w1 w' ∧ WF P ops Q w0 fl n (aa3.setIfInBounds j true) N (bB dst v L) w')
 (hi : ops[j]? = some ⟨dst, .call { callee := .value (.func f), args := xs.toArray, argTypes := ats }, ty, pos, after, none⟩ := by exact rfl) (hx : oY L xs = some vs := by exact rfl) (ok : qK P ops w0 fl aa3 N L := by exact ⟨Rj, aa2 rfl, aa2 rfl, Rj, Rj⟩) (hr : Region.ready .any ops (ey aa3 fl) = [j] := by kernel_rfl) (hj : ∀ f ∈ fl, f.i ≠ j := by exact Rj) (hb : fn.body = some c := by exact rfl) (hn : (fn.name == "runtime.NumGoroutine") = false := by exact rfl) (hdst : ∀ f ∈ fl, dst ≠ some f.d := by exact Rj) (hd : gV N dst = true := by exact rfl) : WF P ops Q w0 fl (n + 1) aa3 N L w := OE ok hr hj hi hf hb hn hx hdst hd h
theorem XZ {p : Prop} {fs : List Fl} (ok : qK P ops w0 fs aa3 N L → p) (h : qK P ops w0 fs aa3 N L := by exact ⟨Rj, aa2 rfl, aa2 rfl, Rj, Rj⟩) : p := ok h
end
structure Fu (n : Nat) : Prop where o : True
theorem Fu.p (_ : Fu (n + 1)) : Fu n := ⟨⟨⟩⟩
theorem au (n : Nat) {p : Prop} (h : q) (f : Wv q → Fu n → p := by
 intro h k
 repeat (
  replace k := k.p
  first
  | (apply XO
     first
     | refine OT ay rfl ?_
     | (apply WV
        first
        | refine Yu rfl rfl ?_
        | refine YN rfl rfl ?_)
     | (apply WS
        first
        | refine XY (YA rfl) rfl ?_
        | refine XY (YE rfl rfl) rfl ?_)
     | (apply XL
        first
        | refine YC rfl rfl rfl tz (by assumption) (by exact Nat.le_of_ble_eq_true rfl) rfl ?_
        | refine Ys rfl rfl (WH rfl) (by assumption) (by exact Nat.le_of_ble_eq_true rfl) (bu rfl) rfl ?_))
  | refine gD ?_
  | (apply VX
     first
     | refine Wn _ rfl rfl (by with_reducible rfl) rfl ?_
     | refine XE _ rfl rfl (by with_reducible rfl) rfl ?_
     | refine YQ _ rfl rfl (by with_reducible rfl) ay rfl ?_)
  | (apply XS
     first
     | refine dr ?_
     | refine VE ?_
     | refine sA ?_
     | refine oD ?_
     | refine JJ ?_
     | refine bS rfl (by with_reducible rfl) ?_
     | refine bm rfl (by with_reducible rfl) ?_
     | refine Ql ?_
     | refine Pj ?_)
  | (apply XM
     first
     | refine UR ?_
     | refine TG ?_
     | refine mv ?_
     | refine xN ?_
     | refine yp ?_
     | refine Ak ?_
     | refine CE ?_
     | refine DY ?_)
  | (apply VV
     first
     | refine TD ?_
     | refine XK rfl Kr (fun _ => ay) rfl ?_
     | refine WO rfl Kr ay rfl ?_
     | refine UJ _ rfl Kr rfl rfl (by with_reducible rfl) ay rfl ?_
     | refine SO _ rfl Kr rfl rfl (by with_reducible rfl) rfl ?_
     | refine Um _ rfl Kr rfl rfl (by with_reducible rfl) rfl ?_
     | refine Wq rfl Kr ay rfl ?_)
  | (apply VY
     first
     | refine V6 rfl Kr (fun _ _ => ay) rfl ?_
     | refine SP ?_)
  | (apply Wz
     refine pE (by first | decide +kernel | exact rfl) ?_)
  | refine ⟨_, rfl, .inr (by assumption), ?_⟩
  | refine ⟨_, rfl, ?_⟩)
 exact h.o) : p := f ⟨h⟩ ⟨⟨⟩⟩
theorem aU {p : Prop} (h : q) (f : Wv q → p := by
 intro h;refine au 99 ?_
 exact h.o) : p := f ⟨h⟩
theorem aa1 {P : Program} {Q : Exit → Act → aa9 → Prop} {N : Nd} {L : List (Nat × Value)} {w : aa9} {c : Operand} {x y : Code} {p r : Prop} {_ : Decidable p} (ht : p → WC P Q x N L w) (hf : ¬ p → WC P Q y N L w) (f : Wv (WC P Q (.cond c x y) N L w) → r := by
 intro h;refine au 99 ?_
 exact h.o) (e : ev L c = some (.bool (decide p)) := by exact rfl) : r := f ⟨al e ht hf⟩
structure Ll (l : List Nat) : Prop where o : True
theorem Xh (_ : Ll l) {p : Prop} (h : Wt l p) : p := h.o
theorem zm (l : List Nat) {p : Prop} (h : q) (f : Wv q → Ll l → p := by
 intro h k;refine au 99 ?_;refine Xh k ?_;refine au 99 ?_
 exact h.o) : p := f ⟨h⟩ ⟨⟨⟩⟩
end Go.Proofs.YtgfafidlkldeaaaGreat
