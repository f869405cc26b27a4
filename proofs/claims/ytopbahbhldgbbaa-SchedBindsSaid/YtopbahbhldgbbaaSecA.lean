/- Secrets of an epoch: sched's functions, what they hand back. -/
import Derived.Test.YtopbahbhldgbbaaCtxA
import Derived.Test.YtopbahbhldgbbaaMacB
import Derived.Great.BuildSlice
namespace Go.Proofs.Ytopbahbhldgbbaa
open Go.RowKit
section
variable {P : Program} {L : List (Nat × Value)} {w : World} {ty t t' e : TypeId} {x y : Operand}
theorem y_eql_nil {A : Option Addr} {n c n' c' : Nat} (hx : ev L x = some (.slice A n c)) (hy : ev L y = some (.slice none n' c')) (hu : P.underlying t = some (.slice e)) : Y P L w (.binOp .eql t x y t') ty (.bool A.isNone) := fun ρ hρ w' _ _ _ _ _ => by
  have h := Lib.run_eql_slice_nil (P := P) w' t e A n c n' c' hu
  simp [execOp, hρ _ _ hx, hρ _ _ hy, eqGuard, h]
/-- A literal slice of elements of more cells. -/
def litOf (P : Program) (e : TypeId) (n : Nat) (qs : List (Nat × Value)) : Option (Array Value) :=
  match P.info? e with
  | some i => match i.zero with
    | some z => if n * i.size = 0 ∨ n * i.size > 2 ^ 24 then none else Instr.fill (fun k => some (k * i.size, i.size)) ((Array.range (n * i.size)).map (z.cells[· % z.cells.size]!)) qs
    | none => none
  | none => none
def NewSlS (w : World) (e : TypeId) (n : Nat) (cs : Array Value) (v : Value) (w' : World) : Prop := ∃ g, v = .slice (some ⟨g, 0, none⟩) n n ∧ Blk w' g e cs ∧ w.heap.size ≤ g ∧ Ext w w'
theorem ef_litS {n : Nat} {ps : Array (Nat × Operand)} {qs : List (Nat × Value)} {cells : Array Value} (hu : P.underlying t = some (.slice e)) (hx : evq L ps.toList = some qs) (h : litOf P e n qs = some cells) : Ef P L w (.buildSlice t n ps) ty (NewSlS w e n cells) := Ef.run fun ρ hρ => by
  refine ⟨_, w.alloc (.cells cells e), ⟨w.heap.size, rfl, Blk.new w e _, Nat.le_refl _, Ext.alloc w _⟩, fun dst pos after guard => ?_⟩
  unfold litOf at h
  cases hq : P.info? e with
  | none => simp [hq] at h
  | some i =>
    simp only [hq] at h
    cases hz : i.zero with
    | none => simp [hz] at h
    | some z =>
      simp only [hz] at h
      split at h
      · cases h
      · rename_i hno
        have h0 : ¬ n * i.size = 0 := fun e => hno (.inl e)
        have h1 : ¬ n * i.size > 2 ^ 24 := fun e => hno (.inr e)
        have hr := run_buildSlice (P := P) w t e n (ps.map fun p => (p.1, ρ p.2)) cells i z hu hq hz h1 h0 (by rw [Array.toList_map, evq_map hρ ps.toList hx]; exact h)
        have e2 : (execOp ρ ⟨dst, .buildSlice t n ps, ty, pos, after, guard⟩) = (do pure (.value (← Instr.buildSlice t n (ps.map fun p => (p.1, ρ p.2))))) := rfl
        rw [e2]
        simp [hr]
end
attribute [local irreducible] Y Ef WL WC WK WQ WM OpM WN WF OpN
theorem bclone_any (A : Option Addr) (n c : Nat) (xs : List UInt8) (w : World) (HA : Bs w A n xs) (hn : n ≤ 35184372088832) :
    Calls Try.prog 49 #[.slice A n c] w fun e w' => ∃ A' c', e = .returned (.slice A' n c') ∧ Bs w' A' n xs ∧ (∀ b o, A' = some ⟨b, o, none⟩ → w.heap.size ≤ b) ∧ Ext w w' := by
  refine vc_enter1 8 Try.func49 rfl rfl rfl rfl ?_
  intro Q hret
  refine wc_seq ?_; intro K1 hK1
  refine wc_region ?_
  refine wl_y (y_assign rfl) rfl ?_
  refine wl_nil ?_
  refine wq_then_norm (hK1 ?_)
  refine wc_seq ?_; intro K2 hK2
  refine wc_seq ?_; intro K3 hK3
  refine wc_region ?_
  refine wl_y (y_move rfl) rfl ?_
  refine wl_y (y_eql_nil rfl rfl Try.underlying24) rfl ?_
  refine wl_nil ?_
  refine wq_then_norm (hK3 ?_)
  refine wc_cond rfl (fun hc1 => ?_) (fun hc1 => ?_)
  · skip
    refine wc_seq ?_; intro K4 hK4
    refine wc_region ?_
    refine wl_y (y_assign rfl) rfl ?_
    refine wl_nil ?_
    refine wq_then_norm (hK4 ?_)
    refine wc_ret ?_
    refine wq_then_ret ?_
    refine hret rfl ?_
    obtain rfl : A = none := by cases A <;> first | rfl | cases hc1
    have hn0 : n = 0 := by
      rcases Nat.eq_zero_or_pos n with h | h
      · exact h
      · obtain ⟨b, off, hA, _⟩ := HA.get h
        cases hA
    subst hn0
    exact ⟨none, 0, rfl, HA, fun _ _ h => (by cases h), Ext.refl _⟩
  · skip
    refine wc_skip ?_
    refine wq_then_norm (hK2 ?_)
    refine wc_seq ?_; intro K5 hK5
    refine wc_region ?_
    refine wl_ef (ef_lit (z := .int .u8 0) Try.underlying24 (by kernel_rfl) rfl rfl rfl rfl rfl) rfl ?_
    rintro _ w1 ⟨g1, rfl, B1, hg1, ex⟩
    have E1 := ex; have R1 : Row w1 w.heap.size 5 (some ⟨g1, 0, none⟩) 0 0 [] := Row.new B1 hg1 rfl (by unfold maxLen; omega)
    refine wl_y (y_move rfl) rfl ?_
    refine wl_ef (ef_app0 rfl rfl eltB R1 (HA.ext E1).2 (by rw [List.length_map, HA.1]) (by intro u hu; exact bv_one u hu) (by omega) (by omega) E1.size) rfl ?_
    rintro _ w2 ⟨A2, c2, rfl, R2, be, gr, hl⟩
    have E2 := E1.trans be
    refine wl_y (y_assign rfl) rfl ?_
    refine wl_nil ?_
    refine wq_then_norm (hK5 ?_)
    refine wc_ret ?_
    refine hret rfl ?_
    exact ⟨A2, c2, rfl, R2.bs, fun b o h => (by subst h; exact (Row.lt R2).1), E2⟩
/-- Twelve secrets, by their bytes. -/
def SecAt (w : World) (cs : Array Value) (l : List (List UInt8)) : Prop := ∃ vs : List Value, cs = vs.toArray ∧ vs.length = 12 ∧ l.length = 12 ∧ ∀ i, i < 12 → ∃ A n c, vs[i]? = some (.slice A n c) ∧ Bs w A n (l.getD i [])
theorem SecAt.ext {w w' : World} {cs : Array Value} {l : List (List UInt8)} (h : SecAt w cs l) (k : Ext w w') : SecAt w' cs l := by
  obtain ⟨vs, h1, h2, h3, h4⟩ := h
  exact ⟨vs, h1, h2, h3, fun i hi => by obtain ⟨A, n, c, h5, h6⟩ := h4 i hi; exact ⟨A, n, c, h5, h6.ext k⟩⟩
theorem SecAt.get {w : World} {cs : Array Value} {l : List (List UInt8)} (h : SecAt w cs l) {i : Nat} (hi : i < 12) : ∃ A n c, cs[i]? = some (.slice A n c) ∧ Bs w A n (l.getD i []) := by
  obtain ⟨vs, rfl, h2, h3, h4⟩ := h
  obtain ⟨A, n, c, h5, h6⟩ := h4 i hi
  exact ⟨A, n, c, by simpa using h5, h6⟩
theorem SecAt.size {w : World} {cs : Array Value} {l : List (List UInt8)} (h : SecAt w cs l) : cs.size = 12 := by obtain ⟨vs, rfl, h2, _⟩ := h; simpa using h2
theorem SecAt.one {w : World} {cs : Array Value} {l : List (List UInt8)} (h : SecAt w cs l) : cs.all (·.oneCell') = true := by
  rw [Array.all_eq_true]
  intro i hi
  obtain ⟨A, n, c, h5, _⟩ := h.get (i := i) (by have := h.size; omega)
  rw [Array.getElem?_eq_some_iff] at h5
  obtain ⟨_, h5⟩ := h5
  rw [h5]; rfl
/-- A block all of whose cells are slices. -/
def AllSl (cs : Array Value) : Prop := ∀ (i : Nat) (v : Value), cs[i]? = some v → ∃ A n c, v = Value.slice A n c
theorem SecAt.sl {w : World} {cs : Array Value} {l : List (List UInt8)} (h : SecAt w cs l) : AllSl cs := fun i v hv => by
  have hi : i < cs.size := (Array.getElem?_eq_some_iff.1 hv).1
  obtain ⟨A, n, c, h5, _⟩ := h.get (i := i) (by have := h.size; omega)
  rw [h5] at hv; injection hv with hv; exact ⟨A, n, c, hv.symm⟩
theorem Bs.sl {w w' : World} {A : Option Addr} {n g : Nat} {t : TypeId} {xs : List UInt8} {cs : Array Value} (h : Bs w A n xs) (B : Blk w g t cs) (hs : AllSl cs) (cg : Chg w g w') : Bs w' A n xs := by
  rcases Nat.eq_zero_or_pos n with h0 | h0
  · subst h0
    have : xs = [] := List.length_eq_zero_iff.1 h.1
    subst this
    exact Bs.nil w' A
  · refine h.chg cg fun b off hA e => ?_
    obtain ⟨b', off', hA', _, hc⟩ := h.get h0
    rw [hA] at hA'
    injection hA' with hA'
    injection hA' with hA' _ _
    subst hA'
    rw [e, B.cell] at hc
    obtain ⟨A, n, c, hv⟩ := hs _ _ hc
    cases hv
/-- One more is put. -/
theorem SecAt.put {w w' : World} {cs : Array Value} {l : List (List UInt8)} {g n c i : Nat} {t : TypeId} {A : Option Addr} {xs : List UInt8} (h : SecAt w cs l) (B : Blk w g t cs) (cg : Chg w g w') (hx : Bs w A n xs) (hi : i < 12) : SecAt w' (cs.setIfInBounds i (Value.slice A n c)) (l.set i xs) := by
  have hsl := h.sl
  obtain ⟨vs, rfl, h2, h3, h4⟩ := h
  refine ⟨vs.set i (.slice A n c), by simp, by simpa using h2, by simpa using h3, fun j hj => ?_⟩
  by_cases e : i = j
  · subst e
    exact ⟨A, n, c, by rw [List.getElem?_set_self (by omega)], by rw [List.getD_eq_getElem?_getD, List.getElem?_set_self (by omega)]; exact hx.sl B hsl cg⟩
  · obtain ⟨A', n', c', h5, h6⟩ := h4 j hj
    exact ⟨A', n', c', by rw [List.getElem?_set_ne e]; exact h5, by rw [List.getD_eq_getElem?_getD, List.getElem?_set_ne e, ← List.getD_eq_getElem?_getD]; exact h6.sl B hsl cg⟩
/-- The labels of what comes of an epoch's secret, in their order. -/
def sLab : Nat → ByteArray
  | 0 => ⟨#[115, 101, 110, 100, 101, 114, 32, 100, 97, 116, 97]⟩
  | 1 => ⟨#[101, 110, 99, 114, 121, 112, 116, 105, 111, 110]⟩
  | 2 => ⟨#[101, 120, 112, 111, 114, 116, 101, 114]⟩
  | 3 => ⟨#[97, 117, 116, 104, 101, 110, 116, 105, 99, 97, 116, 105, 111, 110]⟩
  | 4 => ⟨#[101, 120, 116, 101, 114, 110, 97, 108]⟩
  | 5 => ⟨#[99, 111, 110, 102, 105, 114, 109]⟩
  | 6 => ⟨#[109, 101, 109, 98, 101, 114, 115, 104, 105, 112]⟩
  | 7 => ⟨#[114, 101, 115, 117, 109, 112, 116, 105, 111, 110]⟩
  | 8 => ⟨#[105, 110, 105, 116]⟩
  | _ => ⟨#[]⟩
theorem sLab_size (i : Nat) : (sLab i).size ≤ 1048576 := by
  unfold sLab
  split <;> decide
def sWelcome : ByteArray := ⟨#[119, 101, 108, 99, 111, 109, 101]⟩
def sEpoch : ByteArray := ⟨#[101, 112, 111, 99, 104]⟩
def sJoiner : ByteArray := ⟨#[106, 111, 105, 110, 101, 114]⟩
/-- The secrets of a joiner's, plainly. -/
def secMid (j : List UInt8) : List UInt8 := Mac.tag j (List.replicate 32 0)
def secEp (j : List UInt8) (c : Ctx) : List UInt8 := Kdf.label (secMid j) sEpoch.data.toList (ctxBytes c) 32
def secSub (e : List UInt8) (i : Nat) : List UInt8 := Kdf.label e (sLab i).data.toList [] 32
def secOf (j : List UInt8) (c : Ctx) : List (List UInt8) := [j, Kdf.label (secMid j) sWelcome.data.toList [] 32, secEp j c] ++ (List.range 9).map (secSub (secEp j c))
def secJoiner (i s : List UInt8) (c : Ctx) : List UInt8 := Kdf.label (Mac.tag i s) sJoiner.data.toList (ctxBytes c) 32
theorem label_length (k s c : List UInt8) (n : Nat) : (Kdf.label k s c n).length = n := by unfold Kdf.label; exact Kdf.expand_length _ _ _
theorem labelled_any (A B : Option Addr) (n c m d k : Nat) (s : ByteArray) (ks cs : List UInt8) (w : World) (HA : Bs w A n ks) (hn : n ≤ 35184372088832) (hs : s.size ≤ 1048576) (HB : Bs w B m cs) (hm : m ≤ 1048576) (hk : k ≤ 8160) :
    Calls Try.prog 50 #[.slice A n c, .string s, .slice B m d, .int .i64 (k : Int)] w fun e w' => ∃ A' c', e = .returned (.slice A' k c') ∧ Bs w' A' k (Kdf.label ks s.data.toList cs k) ∧ Ext w w' := by
  refine vc_enter1 20 Try.func50 rfl rfl rfl rfl ?_
  intro Q hret
  refine wc_seq ?_; intro K1 hK1
  refine wc_region ?_
  refine wl_y (y_assign rfl) rfl ?_
  refine wl_nil ?_
  refine wq_then_norm (hK1 ?_)
  refine wc_seq ?_; intro K2 hK2
  refine wc_region ?_
  refine wl_y (y_move rfl) rfl ?_
  refine wl_y (y_move rfl) rfl ?_
  refine wl_y (y_move rfl) rfl ?_
  refine wl_y (y_move rfl) rfl ?_
  refine wl_call Try.func40 rfl rfl rfl (label_any A B n c m d k s ks cs _ HA hn hs HB hm hk) rfl ?_
  rintro e w1 ⟨A1, c1, rfl, H1, hc, ex⟩
  refine ⟨_, rfl, ?_⟩
  skip
  refine wl_y (y_move rfl) rfl ?_
  refine wl_y (y_extract rfl rfl) rfl ?_
  refine wl_y (y_extract rfl rfl) rfl ?_
  refine wl_y (y_assign rfl) rfl ?_
  refine wl_y (y_assign rfl) rfl ?_
  refine wl_nil ?_
  refine wq_then_norm (hK2 ?_)
  refine wc_seq ?_; intro K3 hK3
  refine wc_region ?_
  refine wl_y (y_move rfl) rfl ?_
  refine wl_y (y_assign rfl) rfl ?_
  refine wl_nil ?_
  refine wq_then_norm (hK3 ?_)
  refine wc_ret ?_
  refine hret rfl ?_
  exact ⟨A1, c1, rfl, H1, ex⟩
theorem sjoiner_any (A B : Option Addr) (n c m d : Nat) (xs ys : List UInt8) (cs : Array Value) (x : Ctx) (w : World) (HA : Bs w A n xs) (hn : n ≤ 1000) (HB : Bs w B m ys) (hm : m ≤ 1000) (H : CtxAt w cs x) (hs : x.Small) :
    Calls Try.prog 26 #[.slice A n c, .slice B m d, .agg cs] w fun e w' => ∃ A' c', e = .returned (.slice A' 32 c') ∧ Bs w' A' 32 (secJoiner xs ys x) ∧ Ext w w' := by
  have hz := H.size
  have E := Ext.refl w
  refine vc_enter1 13 Try.func26 rfl rfl rfl rfl ?_
  intro Q hret
  refine wc_seq ?_; intro K1 hK1
  refine wc_region ?_
  refine wl_ef (ef_box (cs := cs) rfl rfl) rfl ?_
  rintro _ w1 ⟨g1, rfl, B1, hg1, ex⟩
  replace E := E.ext ex
  replace HA := HA.ext ex
  replace HB := HB.ext ex
  replace H := H.ext ex
  skip
  refine wl_y (y_assign rfl) rfl ?_
  refine wl_nil ?_
  refine wq_then_norm (hK1 ?_)
  refine wc_seq ?_; intro K2 hK2
  refine wc_draw (by kernel_rfl) 7 rfl ?_; intro wd1 ex hd1
  replace E := E.ext ex
  replace HA := HA.ext ex
  replace HB := HB.ext ex
  replace H := H.ext ex
  replace B1 := B1.ext ex
  refine wm_y 0 rfl (by kernel_rfl) (y_move rfl) rfl ?_
  refine wm_y 1 rfl (by kernel_rfl) (y_move rfl) rfl ?_
  refine wm_y 3 rfl (by kernel_rfl) (y_loadw rfl Try.underlying39 rfl (by rw [hz]; kernel_rfl) B1) rfl ?_
  refine wm_one 2 (by kernel_rfl) ?_; refine om_call rfl Try.func48 rfl rfl rfl (extract_any A B n c m d xs ys _ HA (by omega) HB (by omega)) rfl ?_
  rintro e w2 ⟨A2, c2, rfl, H2, ex⟩
  refine ⟨_, rfl, .inr ex, ?_⟩
  replace E := E.ext ex
  replace HA := HA.ext ex
  replace HB := HB.ext ex
  replace H := H.ext ex
  replace B1 := B1.ext ex
  skip
  refine wm_one 4 (by kernel_rfl) ?_; refine om_call rfl Try.func51 rfl rfl rfl (ctxBytes_any cs x _ H hs) rfl ?_
  rintro e w3 ⟨A3, k3, c3, rfl, H3, hk3, ex⟩
  refine ⟨_, rfl, .inr ex, ?_⟩
  replace E := E.ext ex
  replace HA := HA.ext ex
  replace HB := HB.ext ex
  replace H := H.ext ex
  replace B1 := B1.ext ex
  replace H2 := H2.ext ex
  skip
  refine wm_one 5 (by kernel_rfl) ?_; refine om_call rfl Try.func50 rfl rfl rfl (labelled_any A2 A3 32 c2 k3 c3 32 sJoiner _ _ _ H2 (by omega) (by decide) H3 (by omega) (by omega)) rfl ?_
  rintro e w4 ⟨A4, c4, rfl, H4, ex⟩
  refine ⟨_, rfl, .inr ex, ?_⟩
  replace E := E.ext ex
  replace HA := HA.ext ex
  replace HB := HB.ext ex
  replace H := H.ext ex
  replace B1 := B1.ext ex
  replace H2 := H2.ext ex
  skip
  refine wm_y 6 rfl (by kernel_rfl) (y_assign rfl) rfl ?_
  refine wm_done (by kernel_rfl) ?_
  refine wq_nop ?_
  refine wq_then_norm (hK2 ?_)
  refine wc_ret ?_
  refine hret rfl ?_
  exact ⟨A4, c4, rfl, H4, E⟩
/-- The table's cells. -/
def tabCells (g : Nat) : Array Value := #[.string (sLab 0), .pointer (some ⟨g, 3, none⟩), .string (sLab 1), .pointer (some ⟨g, 4, none⟩), .string (sLab 2), .pointer (some ⟨g, 5, none⟩), .string (sLab 3), .pointer (some ⟨g, 6, none⟩), .string (sLab 4), .pointer (some ⟨g, 7, none⟩), .string (sLab 5), .pointer (some ⟨g, 8, none⟩), .string (sLab 6), .pointer (some ⟨g, 9, none⟩), .string (sLab 7), .pointer (some ⟨g, 10, none⟩), .string (sLab 8), .pointer (some ⟨g, 11, none⟩)]
theorem tab_at (g : Nat) {i : Nat} (h : i < 9) : (tabCells g)[2 * i]? = some (.string (sLab i)) ∧ (tabCells g)[2 * i + 1]? = some (.pointer (some ⟨g, 3 + i, none⟩)) := by
  match i, h with
  | 0, _ => exact ⟨rfl, rfl⟩
  | 1, _ => exact ⟨rfl, rfl⟩
  | 2, _ => exact ⟨rfl, rfl⟩
  | 3, _ => exact ⟨rfl, rfl⟩
  | 4, _ => exact ⟨rfl, rfl⟩
  | 5, _ => exact ⟨rfl, rfl⟩
  | 6, _ => exact ⟨rfl, rfl⟩
  | 7, _ => exact ⟨rfl, rfl⟩
  | 8, _ => exact ⟨rfl, rfl⟩
theorem table_any23 (g : Nat) (w : World) :
    Calls Try.prog 52 #[.pointer (some ⟨g, 0, none⟩)] w fun e w' => ∃ gt, e = .returned (.slice (some ⟨gt, 0, none⟩) 9 9) ∧ Blk w' gt 85 (tabCells g) ∧ w.heap.size ≤ gt ∧ Ext w w' := by
  have E := Ext.refl w
  have hE : w.heap.size ≤ w.heap.size := Nat.le_refl _
  refine vc_enter1 40 Try.func52 rfl rfl rfl rfl ?_
  intro Q hret
  refine wc_seq ?_; intro K1 hK1
  refine wc_region ?_
  refine wl_y (y_assign rfl) rfl ?_
  refine wl_nil ?_
  refine wq_then_norm (hK1 ?_)
  refine wc_seq ?_; intro K2 hK2
  refine wc_draw (by kernel_rfl) 38 rfl ?_; intro wd1 ex hd1
  replace E := E.ext ex
  refine wm_y 0 rfl (by kernel_rfl) (y_move rfl) rfl ?_
  refine wm_y 1 rfl (by kernel_rfl) (y_nilp rfl) rfl ?_
  refine wm_y 2 rfl (by kernel_rfl) (y_fieldAddr (o := 3) (s := 1) (off := 0) (o' := 3) rfl Try.underlying42 rfl (by kernel_rfl) rfl rfl) rfl ?_
  refine wm_y 3 rfl (by kernel_rfl) (y_build rfl (cells := #[.string (sLab 0), .pointer (some ⟨g, 3, none⟩)]) (by kernel_rfl)) rfl ?_
  refine wm_y 4 rfl (by kernel_rfl) (y_move rfl) rfl ?_
  refine wm_y 5 rfl (by kernel_rfl) (y_nilp rfl) rfl ?_
  refine wm_y 6 rfl (by kernel_rfl) (y_fieldAddr (o := 4) (s := 1) (off := 0) (o' := 4) rfl Try.underlying42 rfl (by kernel_rfl) rfl rfl) rfl ?_
  refine wm_y 7 rfl (by kernel_rfl) (y_build rfl (cells := #[.string (sLab 1), .pointer (some ⟨g, 4, none⟩)]) (by kernel_rfl)) rfl ?_
  refine wm_y 8 rfl (by kernel_rfl) (y_move rfl) rfl ?_
  refine wm_y 9 rfl (by kernel_rfl) (y_nilp rfl) rfl ?_
  refine wm_y 10 rfl (by kernel_rfl) (y_fieldAddr (o := 5) (s := 1) (off := 0) (o' := 5) rfl Try.underlying42 rfl (by kernel_rfl) rfl rfl) rfl ?_
  refine wm_y 11 rfl (by kernel_rfl) (y_build rfl (cells := #[.string (sLab 2), .pointer (some ⟨g, 5, none⟩)]) (by kernel_rfl)) rfl ?_
  refine wm_y 12 rfl (by kernel_rfl) (y_move rfl) rfl ?_
  refine wm_y 13 rfl (by kernel_rfl) (y_nilp rfl) rfl ?_
  refine wm_y 14 rfl (by kernel_rfl) (y_fieldAddr (o := 6) (s := 1) (off := 0) (o' := 6) rfl Try.underlying42 rfl (by kernel_rfl) rfl rfl) rfl ?_
  refine wm_y 15 rfl (by kernel_rfl) (y_build rfl (cells := #[.string (sLab 3), .pointer (some ⟨g, 6, none⟩)]) (by kernel_rfl)) rfl ?_
  refine wm_y 16 rfl (by kernel_rfl) (y_move rfl) rfl ?_
  refine wm_y 17 rfl (by kernel_rfl) (y_nilp rfl) rfl ?_
  refine wm_y 18 rfl (by kernel_rfl) (y_fieldAddr (o := 7) (s := 1) (off := 0) (o' := 7) rfl Try.underlying42 rfl (by kernel_rfl) rfl rfl) rfl ?_
  refine wm_y 19 rfl (by kernel_rfl) (y_build rfl (cells := #[.string (sLab 4), .pointer (some ⟨g, 7, none⟩)]) (by kernel_rfl)) rfl ?_
  refine wm_y 20 rfl (by kernel_rfl) (y_move rfl) rfl ?_
  refine wm_y 21 rfl (by kernel_rfl) (y_nilp rfl) rfl ?_
  refine wm_y 22 rfl (by kernel_rfl) (y_fieldAddr (o := 8) (s := 1) (off := 0) (o' := 8) rfl Try.underlying42 rfl (by kernel_rfl) rfl rfl) rfl ?_
  refine wm_y 23 rfl (by kernel_rfl) (y_build rfl (cells := #[.string (sLab 5), .pointer (some ⟨g, 8, none⟩)]) (by kernel_rfl)) rfl ?_
  refine wm_y 24 rfl (by kernel_rfl) (y_move rfl) rfl ?_
  refine wm_y 25 rfl (by kernel_rfl) (y_nilp rfl) rfl ?_
  refine wm_y 26 rfl (by kernel_rfl) (y_fieldAddr (o := 9) (s := 1) (off := 0) (o' := 9) rfl Try.underlying42 rfl (by kernel_rfl) rfl rfl) rfl ?_
  refine wm_y 27 rfl (by kernel_rfl) (y_build rfl (cells := #[.string (sLab 6), .pointer (some ⟨g, 9, none⟩)]) (by kernel_rfl)) rfl ?_
  refine wm_y 28 rfl (by kernel_rfl) (y_move rfl) rfl ?_
  refine wm_y 29 rfl (by kernel_rfl) (y_nilp rfl) rfl ?_
  refine wm_y 30 rfl (by kernel_rfl) (y_fieldAddr (o := 10) (s := 1) (off := 0) (o' := 10) rfl Try.underlying42 rfl (by kernel_rfl) rfl rfl) rfl ?_
  refine wm_y 31 rfl (by kernel_rfl) (y_build rfl (cells := #[.string (sLab 7), .pointer (some ⟨g, 10, none⟩)]) (by kernel_rfl)) rfl ?_
  refine wm_y 32 rfl (by kernel_rfl) (y_move rfl) rfl ?_
  refine wm_y 33 rfl (by kernel_rfl) (y_nilp rfl) rfl ?_
  refine wm_y 34 rfl (by kernel_rfl) (y_fieldAddr (o := 11) (s := 1) (off := 0) (o' := 11) rfl Try.underlying42 rfl (by kernel_rfl) rfl rfl) rfl ?_
  refine wm_y 35 rfl (by kernel_rfl) (y_build rfl (cells := #[.string (sLab 8), .pointer (some ⟨g, 11, none⟩)]) (by kernel_rfl)) rfl ?_
  refine wm_one 36 (by kernel_rfl) ?_; refine om_ef rfl (ef_litS (cells := tabCells g) Try.underlying80 rfl (by kernel_rfl)) rfl ?_
  rintro _ w1 ⟨gt, rfl, B1, hg1, ex⟩
  refine ⟨.inr ex, ?_⟩
  replace E := E.ext ex
  skip
  refine wm_y 37 rfl (by kernel_rfl) (y_assign rfl) rfl ?_
  refine wm_done (by kernel_rfl) ?_
  refine wq_nop ?_
  refine wq_then_norm (hK2 ?_)
  refine wc_ret ?_
  refine hret rfl ?_
  have h2 : wd1.heap.size = w.heap.size := by rw [hd1]
  exact ⟨gt, rfl, B1, by omega, E⟩
end Go.Proofs.Ytopbahbhldgbbaa
