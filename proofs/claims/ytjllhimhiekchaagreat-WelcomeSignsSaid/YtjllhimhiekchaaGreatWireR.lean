/- Bytes that are taken by wire's reader: what each of its functions hands back and leaves. Lengths and vectors that are taken by wire's reader. The reference's lengths, vectors, numbers and flags at a place of bytes. -/
import Derived.Test.YtjllhimhiekchaaGreatRow
import Derived.Test.YtjllhimhiekchaaGreatCtxA
import Derived.Test.YtjllhimhiekchaaGreatVc7
import Derived.Laws.BytesArg
import Derived.Laws.Strings
import Derived.Great.BuildSlice
import Derived.Test.YtjllhimhiekchaaGreatWireA
/- From a row's reading of a context to the walk's word for it. No conditions beyond the row's own. -/
namespace Go.Proofs.YtjllhimhiekchaaGreat
open Go.ChangeShapes Go.WideShapes Go.ChangeAt Go.RowKit
section
variable {H : Type} {enc : TypeId × Value → H} {W : World} {base : Nat} {spare : Nat → Bool} {held : Bool}
theorem open_ctx {v : Value} {d : DataW H} {p : List MemPlace} (h : DataW.Trod enc Tryz.prog W base spare held 40 v d p) :
  ∃ cs x, v = .agg cs ∧ CtxAt W cs x ∧ x.ep < 18446744073709551616 ∧ x.grp.length ≤ maxLen ∧ x.tree.length ≤ maxLen ∧ x.trans.length ≤ maxLen := by
 obtain ⟨fuel, hf⟩ := h
 obtain ⟨fuel', hl, hfs⟩ := trod_struct Tryz.underlying40 hf
 have hc : Tryz.prog.cellsOf 40 = 4 := by kernel_rfl
 rw [hc] at hl
 have c1 : Tryz.prog.cellsOf 23 = 1 := by kernel_rfl
 have c2 : Tryz.prog.cellsOf 38 = 1 := by kernel_rfl
 obtain ⟨y0, h0⟩ := hfs 0 _ rfl
 obtain ⟨y1, h1⟩ := hfs 1 _ rfl
 obtain ⟨y2, h2⟩ := hfs 2 _ rfl
 obtain ⟨y3, h3⟩ := hfs 3 _ rfl
 obtain ⟨A0, n0, k0, g, e0, b0, m0⟩ := trod_bytes h0
 obtain ⟨N, e1, m1⟩ := trod_u64 h1
 obtain ⟨A2, n2, k2, tr, e2, b2, m2⟩ := trod_bytes h2
 obtain ⟨A3, n3, k3, ts, e3, b3, m3⟩ := trod_bytes h3
 have q0 := take1 (i := 0) c1 e0
 have q1 := take1 (i := 1) c2 e1
 have q2 := take1 (i := 2) c1 e2
 have q3 := take1 (i := 3) c1 e3
 have hcs : v.cells.toList = [.slice A0 n0 k0, .int .u64 (N : Int), .slice A2 n2 k2, .slice A3 n3 k3] := by
  apply List.ext_getElem?
  intro i
  match i with
  | 0 => exact q0
  | 1 => exact q1
  | 2 => exact q2
  | 3 => exact q3
  | i + 4 => rw [List.getElem?_eq_none (by omega)]; simp
 refine ⟨_, ⟨g, N, tr, ts⟩, agg_of hcs (by simp), ⟨A0, A2, A3, n0, k0, n2, k2, n3, k3, rfl, b0, b2, b3⟩, m1, ?_, ?_, ?_⟩
 ·show g.length ≤ _; rw [b0.1]; exact m0
 ·show tr.length ≤ _; rw [b2.1]; exact m2
 ·show ts.length ≤ _; rw [b3.1]; exact m3
end
end Go.Proofs.YtjllhimhiekchaaGreat

/- Blocks that may turn, and facts that outlive it. No conditions: plain lemmas of the model. Bytes held against bytes and copied; strings; literal slices of structs. No conditions: plain lemmas, and what bytes.Equal and bytes.Clone hand back. -/
namespace Go.Proofs.YtjllhimhiekchaaGreat
section
open Go.RowKit
structure Chs (S : List Nat) (w w' : World) : Prop where
 os : w'.os = w.os
 tape : w'.tape = w.tape
 output : w'.output = w.output
 size : w.heap.size ≤ w'.heap.size
 block : ∀ k, k < w.heap.size → k ∉ S → w'.heap[k]? = w.heap[k]?
def Kp (N : Nat) (S : List Nat) (Φ : World → Prop) (w : World) : Prop := N ≤ w.heap.size ∧ ∀ w' : World, (∀ k, k < N → k ∉ S → w'.heap[k]? = w.heap[k]?) → Φ w'
section
variable {S S' : List Nat} {w w' w'' : World} {g k : Nat}
theorem Chs.refl (S : List Nat) (w : World) : Chs S w w := ⟨rfl, rfl, rfl, Nat.le_refl _, fun _ _ _ => rfl⟩
theorem Chs.mono (h : Chs S w w') (hs : ∀ k ∈ S, k ∈ S') : Chs S' w w' := ⟨h.os, h.tape, h.output, h.size, fun k hk hn => h.block k hk (fun hm => hn (hs k hm))⟩
theorem Chs.tr (h : Chs S w w') (k : Chs S w' w'') : Chs S w w'' :=
 ⟨k.os.trans h.os, k.tape.trans h.tape, k.output.trans h.output, Nat.le_trans h.size k.size, fun i hi hn => (k.block i (Nat.lt_of_lt_of_le hi h.size) hn).trans (h.block i hi hn)⟩
theorem Chs.of (h : Ext w w') (S : List Nat) : Chs S w w' := ⟨h.os, h.tape, h.output, h.size, fun k hk _ => h.block k hk⟩
theorem Chs.one (h : Chg w g w') : Chs [g] w w' := ⟨h.os, h.tape, h.output, h.size, fun k hk hn => h.block k hk (by intro e; injection e with e; exact hn (by simp [e]))⟩
theorem Chs.toExt (h : Chs S w w') (hS : ∀ k ∈ S, w.heap.size ≤ k) : Ext w w' := ⟨h.os, h.tape, h.output, h.size, fun k hk => h.block k hk (fun hm => by have := hS k hm; omega)⟩
theorem Chs.ext (h : Chs S w w') (e : Ext w' w'') : Chs S w w'' := h.tr (.of e S)
theorem Chs.chs (h : Chs S w w') (k : Chs S' w' w'') (hs : ∀ k ∈ S', k ∈ S := by first | (simp; done) | (simp; assumption)) : Chs S w w'' := h.tr (k.mono hs)
theorem Chs.grow (h : Chs S w w') (e : Ext w' w'') (_ : w'.heap.size ≤ k) : Chs (k :: S) w w'' := (h.ext e).mono (fun _ h => List.mem_cons_of_mem _ h)
theorem Chs.drop (h : Chs (k :: S) w w') (hk : w.heap.size ≤ k) : Chs S w w' :=
 ⟨h.os, h.tape, h.output, h.size, fun i hi hn => h.block i hi (by simp only [List.mem_cons, not_or]; exact ⟨by omega, hn⟩)⟩
theorem Blk.chs {b : Nat} {t : TypeId} {cs : Array Value} (h : Blk w b t cs) (c : Chs S w w') (hb : b ∉ S := by first | (simp; done) | (simp; omega)) : Blk w' b t cs := (c.block b h.lt hb).trans h
theorem Blk.grow {b : Nat} {t : TypeId} {cs : Array Value} (h : Blk w b t cs) (e : Ext w w') (_ : w.heap.size ≤ k) : Blk w' b t cs := h.ext e
theorem _root_.Go.RowKit.Below.grow {a : World} (h : Ext a w) (e : Ext w w') (_ : w.heap.size ≤ k) : Ext a w' := h.tr e
variable {Φ Ψ : World → Prop} {N M : Nat}
theorem Kp.out (h : Kp N S Φ w) : Φ w := h.2 w fun _ _ _ => rfl
theorem Kp.chs (h : Kp N S Φ w) (c : Chs S' w w') (hs : ∀ k ∈ S', k ∈ S := by first | (simp; done) | (simp; assumption)) : Kp N S Φ w' :=
 ⟨Nat.le_trans h.1 c.size, fun w2 hw => h.2 w2 fun k hk hn => (hw k hk hn).trans (c.block k (Nat.lt_of_lt_of_le hk h.1) fun hm => hn (hs k hm))⟩
theorem Kp.ext (h : Kp N S Φ w) (e : Ext w w') : Kp N S Φ w' := h.chs (Chs.of e []) (by simp)
theorem Kp.grow (h : Kp N S Φ w) (e : Ext w w') (hk : w.heap.size ≤ k) : Kp N (k :: S) Φ w' :=
 ⟨Nat.le_trans h.1 e.size, fun w2 hw => h.2 w2 fun i hi hn => (hw i hi (by simp only [List.mem_cons, not_or]; exact ⟨by have := h.1; omega, hn⟩)).trans (e.block i (Nat.lt_of_lt_of_le hi h.1))⟩
theorem Kp.at {A : Option Addr} {xs : List Value} (h : At w A xs) (hS : xs ≠ [] → ∀ g ∈ S, ∀ o, A ≠ some ⟨g, o, none⟩) : Kp w.heap.size S (fun w => At w A xs) w := by
 refine ⟨Nat.le_refl _, fun w2 hw => ?_⟩
 rcases h with h0 | ⟨b, off, hA, hc⟩
 ·exact .inl h0
 ·rcases xs with _ | ⟨x, xs⟩
  ·exact .inl rfl
  ·have hb : b < w.heap.size := cell_lt (hc 0 x rfl)
   have hn : b ∉ S := fun hm => hS (by simp) b hm off hA
   exact .inr ⟨b, off, hA, fun j u hu => (World.cell?_of_block (w := w) (w' := w2) (hw b hb hn)).trans (hc j u hu)⟩
theorem Kp.bs {A : Option Addr} {n : Nat} {xs : List UInt8} (h : Bs w A n xs) (hS : 0 < n → ∀ g ∈ S, ∀ o, A ≠ some ⟨g, o, none⟩) : Kp w.heap.size S (fun w => Bs w A n xs) w :=
 ⟨Nat.le_refl _, fun w2 hw => ⟨h.1, (Kp.at h.2 fun hne => hS (by rw [← h.1]; exact Nat.pos_of_ne_zero fun e => hne (by rw [List.eq_nil_of_length_eq_zero e]; rfl))).2 w2 hw⟩⟩
theorem Kp.row {base : Nat} {e : TypeId} {A : Option Addr} {n c : Nat} {xs : List Value} (h : Row w base e A n c xs) (hS : ∀ g ∈ S, g < base) : Kp w.heap.size S (fun w => Row w base e A n c xs) w := by
 refine ⟨Nat.le_refl _, fun w2 hw => ⟨h.1, ?_⟩⟩
 rcases h.2 with h0 | ⟨g, cap, cur, hv, hg, hb, r⟩
 ·exact .inl h0
 ·have hlt : g < w.heap.size := (Array.getElem?_eq_some_iff.1 hb).1
  exact .inr ⟨g, cap, cur, hv, hg, (hw g hlt fun hm => by have := hS g hm; omega).trans hb, r⟩
def Fb (base : Nat) (w : World) (A : Option Addr) (n : Nat) (xs : List UInt8) : Prop := Bs w A n xs ∧ (0 < n → ∀ b o, A = some ⟨b, o, none⟩ → base ≤ b)
section
variable {A : Option Addr} {n c base base' : Nat} {xs : List UInt8}
theorem Fb.kp (h : Fb base w A n xs) (hS : ∀ g ∈ S, g < base) : Kp w.heap.size S (fun w => Bs w A n xs) w := Kp.bs h.1 fun hn g hg o e => by have := h.2 hn g o e; have := hS g hg; omega
theorem Fb.nil (base : Nat) (w : World) (A : Option Addr) : Fb base w A 0 [] := ⟨Bs.nil _ _, fun h => absurd h (Nat.lt_irrefl 0)⟩
theorem Row.fb (h : Row w base 5 A n c (xs.map bv)) : Fb base w A n xs := ⟨h.bs, fun _ b o e => by subst e; exact (Row.lt h).1⟩
end
theorem Row.chs {S : List Nat} {w w' : World} {base n c : Nat} {e : TypeId} {A : Option Addr} {xs : List Value} (h : Row w base e A n c xs) (k : Chs S w w') (hS : ∀ g ∈ S, g < base := by first | (simp; done) | (simp; omega)) : Row w' base e A n c xs :=
 ((Kp.row h hS).chs k (fun _ h => h)).out
section
variable {A : Option Addr} {n c base base' : Nat} {zs : List Int}
end
end
section
variable {P : Program} {L : List (Nat × Value)} {w : World} {ty t e : TypeId} {x y : Operand}
theorem y_loadx {g o s : Nat} {cs : Array Value} {d : TypeDesc} (hx : ev L x = some (.pointer (some ⟨g, o, none⟩))) (hu : P.underlying t = some d) (hd : (match d with | .struct _ | .array _ _ => true | _ => false) = true) (hs : (P.info? t).map (·.size) = some s) (hB : Blk w g e cs) (hz : Nat.ble (o + s) cs.size = true) : Y P L w (.load t x) ty (.agg ((cs.toList.drop o).take s).toArray) := by
 have hz' : o + s ≤ cs.size := Nat.le_of_ble_eq_true hz
 have hsz : ((cs.toList.drop o).take s).toArray.size = s := by simp; omega
 refine y_loadp hx hu hd (by rw [hsz]; exact hs) fun j v hj => ?_
 rw [Addr.add_plain]
 refine hB.get ?_
 have h1 : ((cs.toList.drop o).take s)[j]? = some v := by simpa using hj
 have hlt : j < s := by
  rcases Nat.lt_or_ge j s with h | h
  ·exact h
  ·rw [List.getElem?_eq_none (by rw [List.length_take]; omega)] at h1; cases h1
 rw [List.getElem?_take_of_lt hlt, List.getElem?_drop] at h1
 simpa using h1
end
section
variable {P : Program} {f : FuncId} {fn : Func} {c : Code} {args : Array Value} {R : Ending → World → Prop} {w : World}
def ones : List Value → Bool
 | [] => true
 | v :: vs => v.oneCell' && ones vs
theorem all_ones {cells : Array Value} (h : ones cells.toList = true) : cells.all (·.oneCell') = true := by
  rw [← Array.all_toList]
  generalize cells.toList = l at h
  induction l with
  | nil => rfl
  | cons v vs ih =>
    rw [ones, Bool.and_eq_true] at h
    rw [List.all_cons, h.1, ih h.2]; rfl
end
end
section
open Go.RowKit
section
section
variable {P : Program} {L : List (Nat × Value)} {w : World} {ty t t' e : TypeId} {x y : Operand}
theorem y_eql_string {s u : ByteArray} (hx : ev L x = some (.string s)) (hy : ev L y = some (.string u)) : Y P L w (.binOp .eql t x y t') ty (.bool (s.toList == u.toList)) := fun ρ hρ w' _ _ _ _ _ => by
 simp [execOp, hρ _ _ hx, hρ _ _ hy, eqGuard, binOp, Op.stringOp]
def strB (xs : List UInt8) : ByteArray := ⟨xs.toArray⟩
theorem strB_list (xs : List UInt8) : (strB xs).toList = xs := by
 exact Go.ByteArray.toList_mk xs
theorem strB_eq (xs ys : List UInt8) : ((strB xs).toList == (strB ys).toList) = decide (xs = ys) := by
 rw [strB_list, strB_list]
 by_cases h : xs = ys
 ·subst h; simp
 ·simp [h]
theorem y_ofBytes {A : Option Addr} {n c : Nat} {xs : List UInt8} (hx : ev L x = some (.slice A n c)) (HA : Bs w A n xs) (hs : P.underlying t = some (.slice e)) (he : P.underlying e = some (.int .u8)) (hd : P.underlying t' = some .string) :
  Y P L w (.convert t t' x) ty (.string (strB xs)) := fun ρ hρ w' E _ _ _ _ => by
 have HB := HA.wk E
 have key : (convert t t' (.slice A n c)).run P w' = .ok (.string (strB xs)) w' := by
  rcases Nat.eq_zero_or_pos n with h0 | h0
  ·subst h0
   have hx0 : xs = [] := List.eq_nil_of_length_eq_zero HA.1
   subst hx0
   rw [run_convert_bytes_string w' t t' e A 0 c hs he hd]
   cases A with
   | none => simp [Conv.bytesToString, strB]; rfl
   | some a => rw [run_bytesToString w' a 0 c [] (by simp [loadCells, loadCellsFrom])]; rfl
  ·obtain ⟨b, off, rfl, _⟩ := HB.get h0
   have h := run_convert_bytes_arg (P := P) w' t e hs he b off n c (xs.map fun u => (u.toNat : Int)) (by simpa using HA.1) (fun i hi => by
    have hl := HA.1
    obtain ⟨b', off', e1, _, hc⟩ := HB.get hi
    injection e1 with e1
    injection e1 with e1 e2 _
    subst e1; subst e2
    rw [hc]
    simp [List.getD, List.getElem?_eq_getElem (show i < xs.length by omega)]) t' hd
   rw [h]
   have : strOfNums (xs.map fun u => (u.toNat : Int)) = strB xs := by
    unfold strOfNums strB
    congr 1
    rw [List.map_map]
    congr 1
    conv => rhs; rw [← List.map_id xs]
    exact List.map_congr_left fun u _ => by simp
   rw [this]
 simp [execOp, hρ _ _ hx, key]
theorem y_eql_nil {A : Option Addr} {n c n' c' : Nat} (hx : ev L x = some (.slice A n c)) (hy : ev L y = some (.slice none n' c')) (hu : P.underlying t = some (.slice e)) : Y P L w (.binOp .eql t x y t') ty (.bool A.isNone) := fun ρ hρ w' _ _ _ _ _ => by
 have h := Lib.run_eql_slice_nil (P := P) w' t e A n c n' c' hu
 simp [execOp, hρ _ _ hx, hρ _ _ hy, eqGuard, h]
end
attribute [local irreducible] Y Ef WL WC WK WQ WM OpM WN WF OpN
theorem bytesEqual_any (A B : Option Addr) (n c m d : Nat) (xs ys : List UInt8) (w : World) (HA : Bs w A n xs) (HB : Bs w B m ys) :
  Calls Tryz.prog 96 #[.slice A n c, .slice B m d] w fun e w' => e = .returned (.bool (decide (xs = ys))) ∧ Ext w w' := by
 refine vc_enter1 10 Tryz.func96 rfl rfl rfl rfl ?_
 intro Q hret
 refine wc_seq ?_; intro K1 hK1
 refine wc_region ?_
 refine wl_y (y_assign rfl) rfl ?_
 refine wl_nil ?_
 refine wq_then_norm (hK1 ?_)
 refine wc_seq ?_; intro K2 hK2
 refine wc_region ?_
 refine wl_y (y_move rfl) rfl ?_
 refine wl_y (y_ofBytes rfl HA Tryz.underlying23 Tryz.underlying5 Tryz.underlying9) rfl ?_
 refine wl_y (y_move rfl) rfl ?_
 refine wl_y (y_ofBytes rfl HB Tryz.underlying23 Tryz.underlying5 Tryz.underlying9) rfl ?_
 refine wl_y (y_eql_string rfl rfl) rfl ?_
 refine wl_y (y_assign rfl) rfl ?_
 refine wl_nil ?_
 refine wq_then_norm (hK2 ?_)
 refine wc_ret ?_
 refine hret rfl ?_
 exact ⟨by rw [strB_eq], Ext.refl _⟩
theorem bclone2_any (A : Option Addr) (n c : Nat) (xs : List UInt8) (w : World) (HA : Bs w A n xs) (hn : 0 < n) (hn2 : n ≤ 35184372088832) :
  Calls Tryz.prog 107 #[.slice A n c] w fun e w' => ∃ A' c', e = .returned (.slice A' n c') ∧ Row w' w.heap.size 5 A' n c' (xs.map bv) ∧ Ext w w' := by
 obtain ⟨b0, off0, rfl, _⟩ := HA.get hn
 refine vc_enter1 8 Tryz.func107 rfl rfl rfl rfl ?_
 intro Q hret
 refine wc_seq ?_; intro K1 hK1
 refine wc_region ?_
 refine wl_y (y_assign rfl) rfl ?_
 refine wl_nil ?_
 refine wq_then_norm (hK1 ?_)
 refine wc_seq ?_; intro K2 hK2
 refine wc_seq ?_; intro K3 hK3
 refine wc_region ?_
 refine wl_y (y_move rfl) rfl ?_
 refine wl_y (y_eql_nil rfl rfl Tryz.underlying23) rfl ?_
 refine wl_nil ?_
 refine wq_then_norm (hK3 ?_)
 refine wc_false rfl rfl ?_
 refine wc_skip ?_
 refine wq_then_norm (hK2 ?_)
 refine wc_seq ?_; intro K4 hK4
 refine wc_region ?_
 refine wl_ef (ef_lit (z := .int .u8 0) Tryz.underlying23 (by kernel_rfl) rfl rfl rfl rfl rfl) rfl ?_
 rintro _ w1 ⟨g1, rfl, B1, hg1, ex⟩
 have E1 := ex; have R1 : Row w1 w.heap.size 5 (some ⟨g1, 0, none⟩) 0 0 [] := Row.new B1 hg1 rfl (by unfold maxLen; omega)
 refine wl_y (y_move rfl) rfl ?_
 refine wl_ef (ef_app0 rfl rfl eltB R1 (HA.ext E1).2 (by rw [List.length_map, HA.1]) (by intro u hu; exact bv_one u hu) (by omega) (by omega) E1.size) rfl ?_
 rintro _ w2 ⟨A2, c2, rfl, R2, be, gr, hl⟩
 have E2 := E1.trans be
 refine wl_y (y_assign rfl) rfl ?_
 refine wl_nil ?_
 refine wq_then_norm (hK4 ?_)
 refine wc_ret ?_
 refine hret rfl ?_
 exact ⟨A2, c2, rfl, R2, E2⟩
end
section
section
variable {P : Program} {L : List (Nat × Value)} {w : World} {ty t t' e : TypeId} {x y : Operand}
end
attribute [local irreducible] Y Ef WL WC WK WQ WM OpM WN WF OpN
end
end
end Go.Proofs.YtjllhimhiekchaaGreat

/- A region that draws its order, with what each operation may turn said ahead by number. No conditions: plain lemmas of the model. -/
namespace Go.Proofs.YtjllhimhiekchaaGreat
open Go.RowKit
def blks : List (Nat × List Nat) → Nat → List Nat
 | [], _ => []
 | (k, l) :: M, i => cond (Nat.beq k i) l (blks M i)
def blksOf (M : List (Nat × List Nat)) (js : List Nat) : List Nat := js.foldr (fun j l => blks M j ++ l) []
theorem mem_blksOf {M : List (Nat × List Nat)} {js : List Nat} {j k : Nat} (hj : j ∈ js) (hk : k ∈ blks M j) : k ∈ blksOf M js := by
  induction js with
  | nil => cases hj
  | cons i js ih =>
    unfold blksOf
    rw [List.foldr_cons, List.mem_append]
    rcases List.mem_cons.1 hj with rfl | hj
    · exact .inl hk
    · exact .inr (ih hj)
theorem blks_nil {M : List (Nat × List Nat)} {j : Nat} (h : (M.map (·.1)).contains j = false) : blks M j = [] := by
  induction M with
  | nil => rfl
  | cons p M ih =>
    obtain ⟨k, l⟩ := p
    simp only [List.map_cons, List.contains_cons, Bool.or_eq_false_iff] at h
    unfold blks
    have hk : Nat.beq k j = false := by
      have h1 : j ≠ k := by simpa using h.1
      cases e : Nat.beq k j with
      | false => rfl
      | true => exact absurd (Nat.eq_of_beq_eq_true e).symm h1
    rw [hk, cond_false]
    exact ih h.2
section
variable {P : Program} {ops : Array Oper} {Q : Exit → Act → World → Prop} {N : Nd} {L : List (Nat × Value)} {w : World} {M : List (Nat × List Nat)}
def wpJ (P : Program) (ops : Array Oper) (Q : Exit → Act → World → Prop) (M : List (Nat × List Nat)) : Nat → Array Bool → Act → World → Prop
 | 0, listed, a, w => Region.ready .any ops listed = [] ∧ Q .normal a w
 | n + 1, listed, a, w => (Region.ready .any ops listed = [] → Q .normal a w) ∧
   ∀ i ∈ Region.ready .any ops listed, wpOp P ops Q i (fun a' w' => Chs (blks M i) w w' ∧ wpJ P ops Q M n (listed.setIfInBounds i true) a' w') a w
theorem wpJ_any : ∀ (n : Nat) (listed : Array Bool) (a : Act) (w : World), wpJ P ops Q M n listed a w → wpAny P .any ops Q n listed a w
 | 0, _, _, _, h => h
 | n + 1, _, _, _, h => ⟨h.1, fun i hi => wpOp_mono (fun a' w' h' => wpJ_any n _ a' w' h'.2) (h.2 i hi)⟩
theorem wpJ_first {U : List Nat} {i : Nat} {oi : Oper} {v : Value} (D : Nat → Bool) (hi : ops[i]? = some oi) (hsel : ∀ (j : Nat) (o : Oper) cs b, ops[j]? = some o → o.op ≠ .select cs b)
    (hQ : ∀ c a w, Q (.panic c) (a.put oi.dst v) w → Q (.panic c) a w) :
    ∀ (n : Nat) (listed : Array Bool) (a : Act) (w : World),
      (∀ j oj, ops[j]? = some oj → j ≠ i → listed.getD j true = false → D j = true → ∃ e ∈ oj.after, Region.binds .any e = true ∧ (e.on = i ∨ D e.on = true ∧ listed.getD e.on true = false)) →
      (∀ j oj, ops[j]? = some oj → j ≠ i → listed.getD j true = false → D j = false → oi.apart ops oj = true ∧ ∀ k ∈ blks M j, k ∈ U) →
      i ∈ Region.ready .any ops listed → YieldsIf P ops (fun w' => Chs U w w') oi v a →
      wpJ P ops Q M n (listed.setIfInBounds i true) (a.put oi.dst v) w → wpJ P ops Q M (n + 1) listed a w := by
  intro n
  induction n with
  | zero =>
    intro listed a w _ _ hr hy H
    refine ⟨fun h => (by rw [h] at hr; cases hr), fun j hj => ?_⟩
    by_cases hji : j = i
    · subst hji; exact hy.wpOp hi (Chs.refl U w) ⟨Chs.refl _ w, H⟩
    · have := ready_mono hj hji
      rw [H.1] at this
      cases this
  | succ n ih =>
    intro listed a w hdep hfree hr hy H
    refine ⟨fun h => (by rw [h] at hr; cases hr), fun j hj => ?_⟩
    by_cases hji : j = i
    · subst hji; exact hy.wpOp hi (Chs.refl U w) ⟨Chs.refl _ w, H⟩
    · have h1 := H.2 j (ready_mono hj hji)
      obtain ⟨hjun, oj, hoj, hall⟩ := mem_ready.1 hj
      have hDj : D j = false := by
        cases hd : D j with
        | false => rfl
        | true =>
          exfalso
          obtain ⟨e, he, hb, hor⟩ := hdep j oj hoj hji hjun hd
          have h1 := hall e he hb
          rcases hor with heq | ⟨_, hun⟩
          · have h0 := (mem_ready.1 hr).1
            rw [heq] at h1
            rcases Nat.lt_or_ge i listed.size with h' | h'
            · simp [h'] at h0 h1; rw [h0] at h1; cases h1
            · simp [Array.getElem?_eq_none h'] at h1
          · rcases Nat.lt_or_ge e.on listed.size with h' | h'
            · simp [h'] at hun h1; rw [hun] at h1; cases h1
            · simp [Array.getElem?_eq_none h'] at h1
      obtain ⟨hap, hU⟩ := hfree j oj hoj hji hjun hDj
      have h2 := wpOp_putIf hoj hap (fun cs b => hsel i oi cs b hi) (fun cs b => hsel j oj cs b hoj) hQ hy h1
      have back : ∀ k, (listed.setIfInBounds j true).getD k true = false → listed.getD k true = false := fun k hun => by
        by_cases hjk : j = k
        · subst hjk; exact hjun
        · rwa [getD_set_ne true hjk] at hun
      have hdep' : ∀ k ok, ops[k]? = some ok → k ≠ i → (listed.setIfInBounds j true).getD k true = false → D k = true → ∃ e ∈ ok.after, Region.binds .any e = true ∧ (e.on = i ∨ D e.on = true ∧ (listed.setIfInBounds j true).getD e.on true = false) := fun k ok hk hki hun hd => by
        obtain ⟨e, he, hb, hor⟩ := hdep k ok hk hki (back k hun) hd
        refine ⟨e, he, hb, hor.imp id fun ⟨h3, h4⟩ => ⟨h3, ?_⟩⟩
        have hne : j ≠ e.on := by rintro rfl; rw [hDj] at h3; cases h3
        rw [getD_set_ne true hne]; exact h4
      have hfree' : ∀ k ok, ops[k]? = some ok → k ≠ i → (listed.setIfInBounds j true).getD k true = false → D k = false → oi.apart ops ok = true ∧ ∀ q ∈ blks M k, q ∈ U := fun k ok hk hki hun hd =>
        hfree k ok hk hki (back k hun) hd
      refine wpOp_mono (fun a' w' h3 => ?_) h2
      obtain ⟨hy', hx, hrest⟩ := h3
      refine ⟨hx, ih (listed.setIfInBounds j true) a' w' hdep' hfree' (ready_mono hr (Ne.symm hji)) (hy'.imp (fun ⟨q1, q2⟩ => ⟨q1, fun w2 e2 => q2 w2 ((hx.mono hU).tr e2)⟩) id) ?_⟩
      rw [Array.setIfInBounds_comm _ _ hji]
      exact hrest
def WJ (P : Program) (ops : Array Oper) (Q : Exit → Act → World → Prop) (M : List (Nat × List Nat)) (n : Nat) (listed : Array Bool) (N : Nd) (L : List (Nat × Value)) (w : World) : Prop := ∀ a, Fr N L a → wpJ P ops Q M n listed a w
theorem wc_drawJ (M : List (Nat × List Nat)) {id : Nat} {l : List Oper} (hm : P.follows .mixedOrders = true) (n : Nat) (hn : l.length = n) (h : ∀ w', Ext w w' → w'.heap = w.heap → WJ P l.toArray (NoP Q) M n (Array.replicate n false) N L w') : WC P Q (.region id l.toArray true) N L w := by
 intro a ha
 subst hn
 have h1 : (Code.region id l.toArray true).wp P (NoP Q) a w := by
  refine wp_region_any hm (wpJ_any (M := M) _ _ _ _ ?_)
  rw [List.size_toArray]
  exact h _ (Ext.drew w) rfl a ha
 refine wp_mono h1 fun e a w hq => ?_
 cases e <;> first | exact hq | exact hq.elim
theorem wj_done {n : Nat} {listed : Array Bool} (hr : Region.ready .any ops listed = []) (h : WQ Q .normal N L w) : WJ P ops Q M n listed N L w := by
 intro a ha
 cases n with
 | zero => exact ⟨hr, h a ha⟩
 | succ n => exact ⟨fun _ => h a ha, by rw [hr]; simp⟩
def freeByJ (ks pre : List Nat) (md : Region.Mode) (ops : Array Oper) (listed : Array Bool) (i : Nat) (D : List Bool) : Bool :=
 Region.noSelect ops && (match ops[i]? with
  | none => false
  | some oi => (List.range ops.size).all fun j => j == i || (listed.getD j true || (match ops[j]? with
    | none => true
    | some oj => cond (D.getD j false) (oj.after.any fun e => Region.binds md e && (e.on == i || (D.getD e.on false && !listed.getD e.on true))) (oi.apart ops oj && (pre.contains j || !ks.contains j))))) && (Region.ready md ops listed).contains i
theorem wj_take {n : Nat} {listed : Array Bool} {i : Nat} {oi : Oper} {v : Value} (pre : List Nat) (hi : ops[i]? = some oi) (hf : freeByJ (M.map (·.1)) pre .any ops listed i (depSet .any ops listed i) = true)
  (hy : ∀ a, Fr N L a → YieldsIf P ops (fun w' => Chs (blksOf M pre) w w') oi v a) (hd : dOk N oi.dst = true) (h : WJ P ops (NoP Q) M n (listed.setIfInBounds i true) N (pushd oi.dst v L) w) : WJ P ops (NoP Q) M (n + 1) listed N L w := by
 intro a ha
 generalize depSet .any ops listed i = D at hf
 simp only [freeByJ, hi, Bool.and_eq_true, List.all_eq_true, List.mem_range, Bool.or_eq_true, beq_iff_eq] at hf
 obtain ⟨⟨h1, h2⟩, h4⟩ := hf
 have key : ∀ j oj, ops[j]? = some oj → j ≠ i → listed.getD j true = false → cond (D.getD j false) (oj.after.any fun e => Region.binds .any e && (e.on == i || (D.getD e.on false && !listed.getD e.on true))) (oi.apart ops oj && (pre.contains j || !(M.map (·.1)).contains j)) = true := fun j oj hj hne hun => by
  have := h2 j (Array.getElem?_eq_some_iff.1 hj).1
  rcases this with h | h | h
  ·exact absurd h hne
  ·rw [hun] at h; cases h
  ·rw [hj] at h; exact h
 refine wpJ_first (U := blksOf M pre) (fun j => D.getD j false) hi (Region.noSelect_spec h1) (fun c a w h => h) n listed a w (fun j oj hj hne hun hd => ?_) (fun j oj hj hne hun hd => ?_) (by simpa using h4) (hy a ha) (h _ (ha.putd hd v))
 ·have k := key j oj hj hne hun
  rw [hd, cond_true] at k
  obtain ⟨e, he, hb⟩ := Array.any_eq_true'.1 k
  simp only [Bool.and_eq_true, Bool.or_eq_true, beq_iff_eq, Bool.not_eq_true'] at hb
  exact ⟨e, he, hb.1, hb.2⟩
 ·have k := key j oj hj hne hun
  rw [hd, cond_false, Bool.and_eq_true, Bool.or_eq_true] at k
  refine ⟨k.1, fun q hq => ?_⟩
  rcases k.2 with k2 | k2
  ·exact mem_blksOf (by simpa using k2) hq
  ·rw [blks_nil (by simpa using k2)] at hq; cases hq
theorem wj_y {n : Nat} {listed : Array Bool} (i : Nat) (pre : List Nat) {op : Op} {ty : TypeId} {v : Value} {dst : Option Tmp} {pos : String} {after : Array Edge} (hi : ops[i]? = some ⟨dst, op, ty, pos, after, none⟩) (hf : freeByJ (M.map (·.1)) pre .any ops listed i (depSet .any ops listed i) = true) (h : ∀ w', Chs (blksOf M pre) w w' → Y P L w' op ty v) (hd : dOk N dst = true)
  (hr : WJ P ops (NoP Q) M n (listed.setIfInBounds i true) N (pushd dst v L) w) : WJ P ops (NoP Q) M (n + 1) listed N L w :=
 wj_take pre hi hf (fun a ha => .inl ⟨rfl, fun w' e => h w' e a.eval (fun _ _ hx => ha.ev hx) w' (Ext.refl w') _ _ _ _⟩) hd hr
def OpJ (P : Program) (ops : Array Oper) (Q : Exit → Act → World → Prop) (M : List (Nat × List Nat)) (n : Nat) (listed : Array Bool) (i : Nat) (N : Nd) (L : List (Nat × Value)) (w : World) : Prop :=
 ∀ a, Fr N L a → wpOp P ops Q i (fun a' w' => Chs (blks M i) w w' ∧ wpJ P ops Q M n (listed.setIfInBounds i true) a' w') a w
theorem wj_all {n : Nat} {listed : Array Bool} (rs : List Nat) (hr : Region.ready .any ops listed = rs) (hne : rs.isEmpty = false) (h : ∀ i ∈ rs, OpJ P ops Q M n listed i N L w) : WJ P ops Q M (n + 1) listed N L w := by
 intro a ha
 refine ⟨fun h0 => ?_, fun i hi => h i (hr ▸ hi) a ha⟩
 rw [hr] at h0
 rw [h0] at hne
 cases hne
theorem wj_one {n : Nat} {listed : Array Bool} (i : Nat) (hr : Region.ready .any ops listed = [i]) (h : OpJ P ops Q M n listed i N L w) : WJ P ops Q M (n + 1) listed N L w :=
 wj_all [i] hr rfl (fun k hk => by simp only [List.mem_singleton] at hk; subst hk; exact h)
theorem wj_two {n : Nat} {listed : Array Bool} (i j : Nat) (hr : Region.ready .any ops listed = [i, j]) (h : OpJ P ops Q M n listed i N L w) (h' : OpJ P ops Q M n listed j N L w) : WJ P ops Q M (n + 1) listed N L w :=
 wj_all [i, j] hr rfl (fun k hk => by
  simp only [List.mem_cons, List.not_mem_nil, or_false] at hk
  rcases hk with hk | hk <;> subst hk
  ·exact h
  ·exact h')
theorem oj_ef {n : Nat} {listed : Array Bool} {i : Nat} {op : Op} {ty : TypeId} {Φ : Value → World → Prop} {dst : Option Tmp} {pos : String} {after : Array Edge} (hi : ops[i]? = some ⟨dst, op, ty, pos, after, none⟩) (h : Ef P L w op ty Φ) (hd : dOk N dst = true)
  (hr : ∀ v w', Φ v w' → Chs (blks M i) w w' ∧ WJ P ops Q M n (listed.setIfInBounds i true) N (pushd dst v L) w') : OpJ P ops Q M n listed i N L w := by
 intro a ha
 unfold wpOp
 simp only [hi]
 rw [if_pos (by simp [Region.wanted])]
 exact .inl (h a N ha _ _ _ _ _ _ fun v w' hv => ⟨(hr v w' hv).1, (hr v w' hv).2 _ (ha.putd hd v)⟩)
section
variable {f : FuncId} {xs : List Operand} {ats : Array TypeId} {vs : List Value} {R : Ending → World → Prop} {fn : Func} {c : Code} {ty : TypeId} {dst : Option Tmp} {pos : String} {after : Array Edge}
end
end
end Go.Proofs.YtjllhimhiekchaaGreat

namespace Go.Proofs.YtjllhimhiekchaaGreat
section
open Go.RowKit
attribute [local irreducible] Y Ef WL WC WK WQ WM OpM WN WF OpN
namespace Wire
abbrev St := Except Nat (List UInt8)
end Wire
open Wire
def rdV (A : Option Addr) (n c e : Nat) : Array Value := #[.slice A n c, .int .u8 (e : Int)]
def Rd (N : Nat) (S : List Nat) (w : World) (g : Nat) (xs : List UInt8) (e : Nat) : Prop := ∃ A n c, Blk w g 274 (rdV A n c e) ∧ n ≤ c ∧ g ∈ S ∧ Kp N S (fun w => Bs w A n xs) w
def Rs (N : Nat) (S : List Nat) (w : World) (g : Nat) : St → Prop
 | .ok xs => Rd N S w g xs 0
 | .error c => c ≠ 0 ∧ c < 256 ∧ ∃ xs, Rd N S w g xs c
section
variable {N : Nat} {S S' : List Nat} {w w' : World} {g k e : Nat} {xs : List UInt8} {s : St}
end
theorem or_low {q x : Nat} (h : x < 256) : (q * 256 ||| x) = q * 256 + x := by
 rw [Nat.mul_comm, show 256 = 2 ^ 8 from rfl, Nat.two_pow_add_eq_or_of_lt (by omega)]
end
section
open Go.RowKit
attribute [local irreducible] Y Ef WL WC WK WQ WM OpM WN WF OpN
open Wire
namespace Wire
end Wire
end
section
open Go.RowKit
attribute [local irreducible] Y Ef WL WC WK WQ WM OpM WN WF OpN
open Wire
namespace Wire
end Wire
end
end Go.Proofs.YtjllhimhiekchaaGreat
