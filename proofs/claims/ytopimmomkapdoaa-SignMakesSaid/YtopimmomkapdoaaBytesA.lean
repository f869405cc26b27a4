/- Bytes held against bytes and copied; strings; literal slices of structs. No conditions: plain lemmas, and what bytes.Equal and bytes.Clone hand back. -/
import Derived.Test.YtopimmomkapdoaaMv
import Derived.Test.YtopimmomkapdoaaMem
import Derived.Laws.BytesArg
import Derived.Laws.Strings
import Derived.Great.BuildSlice
namespace Go.Proofs.Ytopimmomkapdoaa
open Go.RowKit
section
section
variable {P : Program} {L : List (Nat × Value)} {w : World} {ty t t' e : TypeId} {x y : Operand}
theorem y_eql_string {s u : ByteArray} (hx : ev L x = some (.string s)) (hy : ev L y = some (.string u)) : Y P L w (.binOp .eql t x y t') ty (.bool (s.toList == u.toList)) := fun ρ hρ w' _ _ _ _ _ => by
  simp [execOp, hρ _ _ hx, hρ _ _ hy, eqGuard, binOp, Op.stringOp]
/-- A string of these bytes. -/
def strB (xs : List UInt8) : ByteArray := ⟨xs.toArray⟩
theorem strB_list (xs : List UInt8) : (strB xs).toList = xs := by
  exact Go.ByteArray.toList_mk xs
theorem strB_eq (xs ys : List UInt8) : ((strB xs).toList == (strB ys).toList) = decide (xs = ys) := by
  rw [strB_list, strB_list]
  by_cases h : xs = ys
  · subst h; simp
  · simp [h]
theorem y_ofBytes {A : Option Addr} {n c : Nat} {xs : List UInt8} (hx : ev L x = some (.slice A n c)) (HA : Bs w A n xs) (hs : P.underlying t = some (.slice e)) (he : P.underlying e = some (.int .u8)) (hd : P.underlying t' = some .string) :
    Y P L w (.convert t t' x) ty (.string (strB xs)) := fun ρ hρ w' E _ _ _ _ => by
  have HB := HA.wk E
  have key : (convert t t' (.slice A n c)).run P w' = .ok (.string (strB xs)) w' := by
    rcases Nat.eq_zero_or_pos n with h0 | h0
    · subst h0
      have hx0 : xs = [] := List.eq_nil_of_length_eq_zero HA.1
      subst hx0
      rw [run_convert_bytes_string w' t t' e A 0 c hs he hd]
      cases A with
      | none => simp [Conv.bytesToString, strB]; rfl
      | some a => rw [run_bytesToString w' a 0 c [] (by simp [loadCells, loadCellsFrom])]; rfl
    · obtain ⟨b, off, rfl, _⟩ := HB.get h0
      have h := run_convert_bytes_arg (P := P) w' t e hs he b off n c (xs.map fun u => (u.toNat : Int)) (by simpa using HA.1) (fun i hi => by
        have hl := HA.1
        obtain ⟨b', off', e1, _, hc⟩ := HB.get hi
        injection e1 with e1
        injection e1 with e1 e2 _
        subst e1; subst e2
        rw [hc]
        simp [List.getD, List.getElem?_eq_getElem (show i < xs.length by omega)]) t' hd
      rw [h]
      have : strOfNums (xs.map fun u => (u.toNat : Int)) = strB xs := by
        unfold strOfNums strB
        congr 1
        rw [List.map_map]
        congr 1
        conv => rhs; rw [← List.map_id xs]
        exact List.map_congr_left fun u _ => by simp
      rw [this]
  simp [execOp, hρ _ _ hx, key]
theorem y_eql_nil {A : Option Addr} {n c n' c' : Nat} (hx : ev L x = some (.slice A n c)) (hy : ev L y = some (.slice none n' c')) (hu : P.underlying t = some (.slice e)) : Y P L w (.binOp .eql t x y t') ty (.bool A.isNone) := fun ρ hρ w' _ _ _ _ _ => by
  have h := Lib.run_eql_slice_nil (P := P) w' t e A n c n' c' hu
  simp [execOp, hρ _ _ hx, hρ _ _ hy, eqGuard, h]
end
attribute [local irreducible] Y Ef WL WC WK WQ WM OpM WN WF OpN
theorem bytesEqual_any (A B : Option Addr) (n c m d : Nat) (xs ys : List UInt8) (w : World) (HA : Bs w A n xs) (HB : Bs w B m ys) :
    Calls Try.prog 76 #[.slice A n c, .slice B m d] w fun e w' => e = .returned (.bool (decide (xs = ys))) ∧ Ext w w' := by
  refine vc_enter1 10 Try.func76 rfl rfl rfl rfl ?_
  intro Q hret
  refine wc_seq ?_; intro K1 hK1
  refine wc_region ?_
  refine wl_y (y_assign rfl) rfl ?_
  refine wl_nil ?_
  refine wq_then_norm (hK1 ?_)
  refine wc_seq ?_; intro K2 hK2
  refine wc_region ?_
  refine wl_y (y_move rfl) rfl ?_
  refine wl_y (y_ofBytes rfl HA Try.underlying22 Try.underlying5 Try.underlying9) rfl ?_
  refine wl_y (y_move rfl) rfl ?_
  refine wl_y (y_ofBytes rfl HB Try.underlying22 Try.underlying5 Try.underlying9) rfl ?_
  refine wl_y (y_eql_string rfl rfl) rfl ?_
  refine wl_y (y_assign rfl) rfl ?_
  refine wl_nil ?_
  refine wq_then_norm (hK2 ?_)
  refine wc_ret ?_
  refine hret rfl ?_
  exact ⟨by rw [strB_eq], Ext.refl _⟩
theorem bclone2_any (A : Option Addr) (n c : Nat) (xs : List UInt8) (w : World) (HA : Bs w A n xs) (hn : 0 < n) (hn2 : n ≤ 35184372088832) :
    Calls Try.prog 78 #[.slice A n c] w fun e w' => ∃ A' c', e = .returned (.slice A' n c') ∧ Row w' w.heap.size 5 A' n c' (xs.map bv) ∧ Ext w w' := by
  obtain ⟨b0, off0, rfl, _⟩ := HA.get hn
  refine vc_enter1 8 Try.func78 rfl rfl rfl rfl ?_
  intro Q hret
  refine wc_seq ?_; intro K1 hK1
  refine wc_region ?_
  refine wl_y (y_assign rfl) rfl ?_
  refine wl_nil ?_
  refine wq_then_norm (hK1 ?_)
  refine wc_seq ?_; intro K2 hK2
  refine wc_seq ?_; intro K3 hK3
  refine wc_region ?_
  refine wl_y (y_move rfl) rfl ?_
  refine wl_y (y_eql_nil rfl rfl Try.underlying22) rfl ?_
  refine wl_nil ?_
  refine wq_then_norm (hK3 ?_)
  refine wc_false rfl rfl ?_
  refine wc_skip ?_
  refine wq_then_norm (hK2 ?_)
  refine wc_seq ?_; intro K4 hK4
  refine wc_region ?_
  refine wl_ef (ef_lit (z := .int .u8 0) Try.underlying22 (by kernel_rfl) rfl rfl rfl rfl rfl) rfl ?_
  rintro _ w1 ⟨g1, rfl, B1, hg1, ex⟩
  have E1 := ex; have R1 : Row w1 w.heap.size 5 (some ⟨g1, 0, none⟩) 0 0 [] := Row.new B1 hg1 rfl (by unfold maxLen; omega)
  refine wl_y (y_move rfl) rfl ?_
  refine wl_ef (ef_app0 rfl rfl eltB R1 (HA.ext E1).2 (by rw [List.length_map, HA.1]) (by intro u hu; exact bv_one u hu) (by omega) (by omega) E1.size) rfl ?_
  rintro _ w2 ⟨A2, c2, rfl, R2, be, gr, hl⟩
  have E2 := E1.trans be
  refine wl_y (y_assign rfl) rfl ?_
  refine wl_nil ?_
  refine wq_then_norm (hK4 ?_)
  refine wc_ret ?_
  refine hret rfl ?_
  exact ⟨A2, c2, rfl, R2, E2⟩
end
section
section
variable {P : Program} {L : List (Nat × Value)} {w : World} {ty t t' e : TypeId} {x y : Operand}
/-- A literal slice of elements of more cells. -/
def litOf (P : Program) (e : TypeId) (n : Nat) (qs : List (Nat × Value)) : Option (Array Value) :=
  match P.info? e with
  | some i => match i.zero with
    | some z => if n * i.size = 0 ∨ n * i.size > 2 ^ 24 then none else Instr.fill (fun k => some (k * i.size, i.size)) ((Array.range (n * i.size)).map (z.cells[· % z.cells.size]!)) qs
    | none => none
  | none => none
def NewSlS (w : World) (e : TypeId) (n : Nat) (cs : Array Value) (v : Value) (w' : World) : Prop := ∃ g, v = .slice (some ⟨g, 0, none⟩) n n ∧ Blk w' g e cs ∧ w.heap.size ≤ g ∧ Ext w w'
theorem ef_litS {n : Nat} {ps : Array (Nat × Operand)} {qs : List (Nat × Value)} {cells : Array Value} (hu : P.underlying t = some (.slice e)) (hx : evq L ps.toList = some qs) (h : litOf P e n qs = some cells) : Ef P L w (.buildSlice t n ps) ty (NewSlS w e n cells) := Ef.run fun ρ hρ => by
  refine ⟨_, w.alloc (.cells cells e), ⟨w.heap.size, rfl, Blk.new w e _, Nat.le_refl _, Ext.alloc w _⟩, fun dst pos after guard => ?_⟩
  unfold litOf at h
  cases hq : P.info? e with
  | none => simp [hq] at h
  | some i =>
    simp only [hq] at h
    cases hz : i.zero with
    | none => simp [hz] at h
    | some z =>
      simp only [hz] at h
      split at h
      · cases h
      · rename_i hno
        have h0 : ¬ n * i.size = 0 := fun e => hno (.inl e)
        have h1 : ¬ n * i.size > 2 ^ 24 := fun e => hno (.inr e)
        have hr := run_buildSlice (P := P) w t e n (ps.map fun p => (p.1, ρ p.2)) cells i z hu hq hz h1 h0 (by rw [Array.toList_map, evq_map hρ ps.toList hx]; exact h)
        have e2 : (execOp ρ ⟨dst, .buildSlice t n ps, ty, pos, after, guard⟩) = (do pure (.value (← Instr.buildSlice t n (ps.map fun p => (p.1, ρ p.2))))) := rfl
        rw [e2]
        simp [hr]
end
attribute [local irreducible] Y Ef WL WC WK WQ WM OpM WN WF OpN
theorem bclone_any (A : Option Addr) (n c : Nat) (xs : List UInt8) (w : World) (HA : Bs w A n xs) (hn : n ≤ 35184372088832) :
    Calls Try.prog 78 #[.slice A n c] w fun e w' => ∃ A' c', e = .returned (.slice A' n c') ∧ Bs w' A' n xs ∧ (∀ b o, A' = some ⟨b, o, none⟩ → w.heap.size ≤ b) ∧ Ext w w' := by
  refine vc_enter1 8 Try.func78 rfl rfl rfl rfl ?_
  intro Q hret
  refine wc_seq ?_; intro K1 hK1
  refine wc_region ?_
  refine wl_y (y_assign rfl) rfl ?_
  refine wl_nil ?_
  refine wq_then_norm (hK1 ?_)
  refine wc_seq ?_; intro K2 hK2
  refine wc_seq ?_; intro K3 hK3
  refine wc_region ?_
  refine wl_y (y_move rfl) rfl ?_
  refine wl_y (y_eql_nil rfl rfl Try.underlying22) rfl ?_
  refine wl_nil ?_
  refine wq_then_norm (hK3 ?_)
  refine wc_cond rfl (fun hc1 => ?_) (fun hc1 => ?_)
  · skip
    refine wc_seq ?_; intro K4 hK4
    refine wc_region ?_
    refine wl_y (y_assign rfl) rfl ?_
    refine wl_nil ?_
    refine wq_then_norm (hK4 ?_)
    refine wc_ret ?_
    refine wq_then_ret ?_
    refine hret rfl ?_
    obtain rfl : A = none := by cases A <;> first | rfl | cases hc1
    have hn0 : n = 0 := by
      rcases Nat.eq_zero_or_pos n with h | h
      · exact h
      · obtain ⟨b, off, hA, _⟩ := HA.get h
        cases hA
    subst hn0
    exact ⟨none, 0, rfl, HA, fun _ _ h => (by cases h), Ext.refl _⟩
  · skip
    refine wc_skip ?_
    refine wq_then_norm (hK2 ?_)
    refine wc_seq ?_; intro K5 hK5
    refine wc_region ?_
    refine wl_ef (ef_lit (z := .int .u8 0) Try.underlying22 (by kernel_rfl) rfl rfl rfl rfl rfl) rfl ?_
    rintro _ w1 ⟨g1, rfl, B1, hg1, ex⟩
    have E1 := ex; have R1 : Row w1 w.heap.size 5 (some ⟨g1, 0, none⟩) 0 0 [] := Row.new B1 hg1 rfl (by unfold maxLen; omega)
    refine wl_y (y_move rfl) rfl ?_
    refine wl_ef (ef_app0 rfl rfl eltB R1 (HA.ext E1).2 (by rw [List.length_map, HA.1]) (by intro u hu; exact bv_one u hu) (by omega) (by omega) E1.size) rfl ?_
    rintro _ w2 ⟨A2, c2, rfl, R2, be, gr, hl⟩
    have E2 := E1.trans be
    refine wl_y (y_assign rfl) rfl ?_
    refine wl_nil ?_
    refine wq_then_norm (hK5 ?_)
    refine wc_ret ?_
    refine hret rfl ?_
    exact ⟨A2, c2, rfl, R2.bs, fun b o h => (by subst h; exact (Row.lt R2).1), E2⟩
end
end Go.Proofs.Ytopimmomkapdoaa
