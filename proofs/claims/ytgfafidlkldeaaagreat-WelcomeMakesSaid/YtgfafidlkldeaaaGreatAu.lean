/- The walker: steps that ask nothing are taken by one lemma. No conditions. -/
import Derived.Test.YtgfafidlkldeaaaGreatVs
set_option linter.unusedVariables false
set_option linter.unusedSimpArgs false
namespace Go.Proofs.YtgfafidlkldeaaaGreat
open Go.RowKit Tryz
class Tn (t : TypeId) (s : outParam Nat) (d : outParam TypeDesc) (i : outParam TypeInfo) : Prop where
 o : Tryz.prog.types[t]? = some i
 s : i.size = s
 u : Tryz.prog.underlying t = some d
theorem Mx {P : Program} {t : TypeId} {i : TypeInfo} {β : Type} {f : TypeInfo → β} {s : β} (h : P.types[t]? = some i) (e : f i = s) : (P.info? t).map f = some s := by
 have ht : t < P.types.size := (Array.getElem?_eq_some_iff.1 h).1
 unfold Tables.info?; rw [if_pos ht, h]; exact congrArg some e
theorem tz {t s d i} [h : Tn t s d i] : (Tryz.prog.info? t).map (·.size) = some s := Mx h.o h.s
theorem MG {t s d i} {cs : Array Value} [h : Tn t s d i] (e : cs.size = s) : (Tryz.prog.info? t).map (·.size) = some cs.size := Mx h.o (h.s.trans e.symm)
theorem OD {t s d i} {Z : Array Value} [h : Tn t s d i] (e : i.zero = some (.agg Z)) : (Tryz.prog.info? t).map (fun i => i.zero.map (·.cells)) = some (some Z) := Mx h.o (by rw [e]; rfl)
theorem Ow {t s d i v} [h : Tn t s d i] (e : i.zero = some v) (e' : v.cells = #[v]) : (Tryz.prog.info? t).map (fun i => i.zero.map (·.cells)) = some (some #[v]) := Mx h.o (by rw [e]; exact congrArg some e')
def Jo (P : Program) (fs : Array Field) (os : List Nat) : Bool := fs.toList.map (·.offset) == os && fs.toList.all fun f => ((P.info? f.type).map fun i => i.size == 0) == some false
class Fs (t : TypeId) (os : outParam (List Nat)) : Prop where
 f : ∃ fs, Tryz.prog.underlying t = some (.struct fs) ∧ Jo Tryz.prog fs os = true
theorem sj {t : TypeId} {fs : Array Field} {os : List Nat} (u : Tryz.prog.underlying t = some (.struct fs)) (h : Jo Tryz.prog fs os = true := by kernel_rfl) : Fs t os := ⟨fs, u, h⟩
theorem Oy {L : List (Nat × Value)} {w : World} {ty t : TypeId} {x : Operand} {b off i o : Nat} {os : List Nat} [h : Fs t os] (hx : ev L x = some (.pointer (some ⟨b, off, none⟩))) (ho : os[i]? = some o) :
  Y Tryz.prog L w (.fieldAddr t x i) ty (.pointer (some ⟨b, off + o, none⟩)) := by
 obtain ⟨fs, hu, hb⟩ := h.f
 unfold Jo at hb
 simp only [Bool.and_eq_true, beq_iff_eq, List.all_eq_true] at hb
 obtain ⟨e, ha⟩ := hb
 subst e
 rw [List.getElem?_map] at ho
 obtain ⟨f, hf, rfl⟩ := Option.map_eq_some_iff.1 ho
 have h1 := ha f (List.mem_of_getElem? hf)
 cases hs : Tryz.prog.info? f.type with
 | none => rw [hs] at h1; cases h1
 | some j =>
  rw [hs] at h1
  exact nB (ft := f.type) (s := j.size) hx hu (by rw [← Array.getElem?_toList, hf]; rfl) (by rw [hs]; rfl) (by injection h1) rfl
instance : Tn 3 1 t3.desc t3 := ⟨type3, rfl, underlying3⟩
instance : Tn 4 1 t4.desc t4 := ⟨type4, rfl, underlying4⟩
instance : Tn 5 1 t5.desc t5 := ⟨type5, rfl, underlying5⟩
instance : Tn 9 1 t9.desc t9 := ⟨type9, rfl, underlying9⟩
instance : Tn 22 1 t22.desc t22 := ⟨type22, rfl, underlying22⟩
instance : Tn 23 1 t23.desc t23 := ⟨type23, rfl, underlying23⟩
instance : Tn 25 2 t24.desc t25 := ⟨type25, rfl, underlying25⟩
instance : Tn 27 6 t26.desc t27 := ⟨type27, rfl, underlying27⟩
instance : Tn 29 8 t28.desc t29 := ⟨type29, rfl, underlying29⟩
instance : Tn 35 2 t34.desc t35 := ⟨type35, rfl, underlying35⟩
instance : Tn 37 3 t36.desc t37 := ⟨type37, rfl, underlying37⟩
instance : Tn 38 1 t38.desc t38 := ⟨type38, rfl, underlying38⟩
instance : Tn 40 4 t39.desc t40 := ⟨type40, rfl, underlying40⟩
instance : Tn 42 7 t41.desc t42 := ⟨type42, rfl, underlying42⟩
instance : Tn 44 12 t43.desc t44 := ⟨type44, rfl, underlying44⟩
instance : Tn 46 20 t45.desc t46 := ⟨type46, rfl, underlying46⟩
instance : Tn 47 1 t5.desc t47 := ⟨type47, rfl, underlying47⟩
instance : Tn 51 3 t50.desc t51 := ⟨type51, rfl, underlying51⟩
instance : Tn 56 1 t56.desc t56 := ⟨type56, rfl, underlying56⟩
instance : Tn 58 1 t58.desc t58 := ⟨type58, rfl, underlying58⟩
instance : Tn 59 1 t59.desc t59 := ⟨type59, rfl, underlying59⟩
instance : Tn 68 9 t67.desc t68 := ⟨type68, rfl, underlying68⟩
instance : Tn 77 2 t76.desc t77 := ⟨type77, rfl, underlying77⟩
instance : Tn 127 1 t127.desc t127 := ⟨type127, rfl, underlying127⟩
instance : Tn 132 5 t132.desc t132 := ⟨type132, rfl, underlying132⟩
instance : Tn 134 5 t133.desc t134 := ⟨type134, rfl, underlying134⟩
instance : Tn 136 21 t135.desc t136 := ⟨type136, rfl, underlying136⟩
instance : Tn 139 4 t139.desc t139 := ⟨type139, rfl, underlying139⟩
instance : Tn 141 4 t140.desc t141 := ⟨type141, rfl, underlying141⟩
instance : Tn 157 1 t157.desc t157 := ⟨type157, rfl, underlying157⟩
instance : Tn 177 1 t177.desc t177 := ⟨type177, rfl, underlying177⟩
instance : Tn 185 1 t185.desc t185 := ⟨type185, rfl, underlying185⟩
instance : Tn 189 1 t189.desc t189 := ⟨type189, rfl, underlying189⟩
instance : Tn 209 2 t208.desc t209 := ⟨type209, rfl, underlying209⟩
instance : Tn 220 2 t219.desc t220 := ⟨type220, rfl, underlying220⟩
instance : Tn 227 1 t227.desc t227 := ⟨type227, rfl, underlying227⟩
instance : Tn 239 1 t239.desc t239 := ⟨type239, rfl, underlying239⟩
instance : Tn 241 2 t240.desc t241 := ⟨type241, rfl, underlying241⟩
instance : Tn 242 10 t242.desc t242 := ⟨type242, rfl, underlying242⟩
instance : Tn 256 32 t256.desc t256 := ⟨type256, rfl, underlying256⟩
instance : Tn 259 1 t259.desc t259 := ⟨type259, rfl, underlying259⟩
instance : Tn 265 256 t265.desc t265 := ⟨type265, rfl, underlying265⟩
instance : Tn 275 64 t275.desc t275 := ⟨type275, rfl, underlying275⟩
instance : Tn 284 8 t284.desc t284 := ⟨type284, rfl, underlying284⟩
instance : Tn 294 8 t294.desc t294 := ⟨type294, rfl, underlying294⟩
instance : Tn 296 80 t296.desc t296 := ⟨type296, rfl, underlying296⟩
instance : Tn 300 10 t299.desc t300 := ⟨type300, rfl, underlying300⟩
instance : Tn 305 64 t305.desc t305 := ⟨type305, rfl, underlying305⟩
instance : Tn 309 1 t309.desc t309 := ⟨type309, rfl, underlying309⟩
instance : Fs 25 [0, 1] := sj underlying25
instance : Fs 27 [0, 1, 2, 3, 4, 5] := sj underlying27
instance : Fs 29 [0, 1, 7] := sj underlying29
instance : Fs 35 [0, 1] := sj underlying35
instance : Fs 37 [0, 1] := sj underlying37
instance : Fs 40 [0, 1, 2, 3] := sj underlying40
instance : Fs 42 [0, 4, 5, 6] := sj underlying42
instance : Fs 44 [0, 1, 2, 3, 4, 5, 6, 7, 8, 9, 10, 11] := sj underlying44
instance : Fs 46 [0, 7, 19] := sj underlying46
instance : Fs 51 [0, 1, 2] := sj underlying51
instance : Fs 68 [0, 8] := sj underlying68
instance : Fs 77 [0, 1] := sj underlying77
instance : Fs 134 [0] := sj underlying134
instance : Fs 136 [0, 5, 10, 15, 20] := sj underlying136
instance : Fs 141 [0] := sj underlying141
instance : Fs 209 [0, 1] := sj underlying209
instance : Fs 220 [0, 1] := sj underlying220
instance : Fs 241 [0, 1] := sj underlying241
instance : Fs 300 [0, 5] := sj underlying300
section
variable {P : Program} {L : List (Nat × Value)} {w : World} {op : Op} {ty : TypeId} {v : Value}
theorem Oo {p : Prop} {i : Decidable p} (h : Y P L w op ty (.bool (@decide p i))) (hp : p) : Y P L w op ty (.bool true) := by rw [decide_eq_true hp] at h; exact h
theorem Ox {p : Prop} {i : Decidable p} (h : Y P L w op ty (.bool (@decide p i))) (hp : ¬ p) : Y P L w op ty (.bool false) := by rw [decide_eq_false hp] at h; exact h
theorem yc {p : Prop} {i : Decidable p} (h : Y P L w op ty (.bool (@decide p i)) := by first | exact dU rfl rfl | exact jr rfl rfl | exact cA rfl rfl | exact qu rfl rfl | exact fF rfl rfl | exact nt rfl rfl) : Y P L w op ty (.bool (@decide p i)) := h
theorem N5 {x : Operand} {g i : Nat} {t e : TypeId} {cs : Array Value} {d : TypeDesc} (hx : ev L x = some (.pointer (some ⟨g, i, none⟩))) (hu : P.underlying t = some d) (hd : (match d with | .struct _ | .array _ _ => false | _ => true) = true) (B : ao w g e cs) (hv : cs[i]? = some v) : Y P L w (.load t x) ty v := ah hx hu hd (B.get hv)
theorem Ov {x : Operand} {g : Nat} {t e : TypeId} {cs : Array Value} {d : TypeDesc} (hx : ev L x = some (.pointer (some ⟨g, 0, none⟩))) (hu : P.underlying t = some d) (hd : (match d with | .struct _ | .array _ _ => true | _ => false) = true) (B : ao w g e cs) (hs : (P.info? t).map (·.size) = some cs.size) : Y P L w (.load t x) ty (.agg cs) := aV hx hu hd hs B
theorem Mn {S : List Nat} {w w' : World} {b : Nat} {t : TypeId} {cs : Array Value} (c : aX S w w') (h : ao w b t cs) (hb : b ∉ S := by first | (simp [iL, nf]; done) | (simp [iL, nf]; omega)) : ao w' b t cs := h.bT c hb
theorem Ol {t : TypeId} {x : Operand} (h : Y P L w (.load t x) ty v) : Y P L w (.load t x) ty v := h
theorem OJ {o t x y t'} (h : Y P L w (.binOp o t x y t') ty v) : Y P L w (.binOp o t x y t') ty v := h
theorem Ot {c} (h : Y P L w (.call c) ty v) : Y P L w (.call c) ty v := h
theorem Og {t x y} (h : Y P L w (.indexAddr t x y) ty v) : Y P L w (.indexAddr t x y) ty v := h
theorem Oi {t x y} (h : Y P L w (.convert t x y) ty v) : Y P L w (.convert t x y) ty v := h
theorem NG {t x} {p : Bool} (hx : ev L x = some (.bool p)) (hp : p = true) : Y P L w (.unOp .not t x) ty (.bool false) := by subst hp; exact kz hx
theorem NI {t x} {p : Bool} (hx : ev L x = some (.bool p)) (hp : p = false) : Y P L w (.unOp .not t x) ty (.bool true) := by subst hp; exact kz hx
theorem ay (h : Y P L w op ty v := by first
 | exact bj rfl
 | exact gC rfl
 | (apply Ol
    first
    | exact N5 rfl Tn.u rfl (by assumption) (by exact rfl)
    | exact Ov rfl Tn.u rfl (by assumption) (by first | exact MG rfl | exact MG (FE.size (by assumption)))
    | exact nZ rfl Tn.u rfl tz (by assumption) (by exact rfl)
    | exact N5 rfl Tn.u rfl (Mn (by assumption) (by assumption)) (by exact rfl)
    | exact nZ rfl Tn.u rfl tz (Mn (by assumption) (by assumption)) (by exact rfl)
    | exact ah rfl Tn.u rfl (by assumption))
 | (apply OJ
    first
    | exact Oo yc Om
    | exact Ox yc Om
    | exact yc
    | exact aN rfl rfl (br Om Om)
    | exact eK rfl rfl (br Om Om)
    | exact cz rfl rfl (br Om Om))
 | exact du rfl rfl
 | exact Oy rfl rfl
 | (apply Ot
    exact nw rfl Tn.u)
 | exact Jz rfl
 | exact FP rfl rfl
 | exact FO rfl rfl
 | exact NG rfl (by with_reducible rfl)
 | exact NI rfl (by with_reducible rfl)
 | exact kz rfl
 | (apply Og
    first
    | exact aD rfl rfl Tn.u tz rfl Om
    | exact bG rfl rfl Tn.u tz rfl Om)
 | (apply Oi
    first
    | exact bg rfl Tn.u Tn.u (br Om Om)
    | exact bg rfl Tn.u Tn.u (IntWalk.u64_in _ ⟨by omega, by omega⟩))) : Y P L w op ty v := h
end
structure Wt (l : List Nat) (p : Prop) : Prop where o : p
theorem Cc (l : List Nat) {p : Prop} (h : Wt l p) : p := h.o
structure Wu (l : List (Nat × List Nat)) (p : Prop) : Prop where o : p
theorem vF (l : List (Nat × List Nat)) {p : Prop} (h : Wu l p) : p := h.o
section
variable {P : Program} {ops : Array Oper} {Q : Exit → Act → World → Prop} {N : Nd} {L : List (Nat × Value)} {w : World} {i j n : Nat} {l : List Nat} {listed : Array Bool} {op : Op} {ty : TypeId} {v : Value} {dst : Option Tmp} {pos : String} {after : Array Edge} {b b' : Bool}
theorem JD {p : Prop} (h : p) : Wt [] p := ⟨h⟩
theorem Kh {p : Prop} (h : p) : Wu [] p := ⟨h⟩
theorem NN (hi : ops[i]? = some ⟨dst, op, ty, pos, after, none⟩) (hf : ou .any ops listed i = true) (h : Y P L w op ty v) (hd : gH N dst = true) (hr : Wt l (WM P ops (fW Q) n (listed.setIfInBounds i true) N (bL dst v L) w)) : Wt (i :: l) (WM P ops (fW Q) (n + 1) listed N L w) := ⟨Lw i hi hf h hd hr.o⟩
theorem NP (hi : ops[i]? = some ⟨dst, op, ty, pos, after, none⟩) (hf : ko .any ops listed i = true) (h : ∀ w0, Y P L w0 op ty v) (hd : gH N dst = true) (hr : Wt l (WM P ops (fW Q) n (listed.setIfInBounds i true) N (bL dst v L) w)) : Wt (i :: l) (WM P ops (fW Q) (n + 1) listed N L w) := ⟨Lq i hi hf h hd hr.o⟩
theorem Oz {d : Tmp} {rest : List Oper} (t : Tmp) (hj : (ops[j]?).bind (·.dst) = some t) (ht : look L t = some (.bool b')) (hb : b' = b) (h : Y P L w op ty v) (hd : Nat.ble (d + 1) N.n = true) (hr : WL P ops Q rest N ((d, v) :: L) w) : WL P ops Q (⟨some d, op, ty, pos, after, some (j, b)⟩ :: rest) N L w := yp t hj (hb ▸ ht) h hd hr
theorem Nj {rest : List Oper} (t : Tmp) (hj : (ops[j]?).bind (·.dst) = some t) (ht : look L t = some (.bool b)) (hb : b = false) (hd : gH N dst = true) (hr : WL P ops Q rest N (bL dst undef L) w) : WL P ops Q (⟨dst, op, ty, pos, after, some (j, true)⟩ :: rest) N L w := Az t hj (hb ▸ ht) rfl hd hr
theorem NA {rest : List Oper} (t : Tmp) (hj : (ops[j]?).bind (·.dst) = some t) (ht : look L t = some (.bool b)) (hb : b = true) (hd : gH N dst = true) (hr : WL P ops Q rest N (bL dst undef L) w) : WL P ops Q (⟨dst, op, ty, pos, after, some (j, false)⟩ :: rest) N L w := Az t hj (hb ▸ ht) rfl hd hr
end
section
variable {P : Program} {ops : Array Oper} {Q : Exit → Act → World → Prop} {N : Nd} {L : List (Nat × Value)} {w w0 : World} {i j n : Nat} {l : List Nat} {pre : List Nat} {l' : List (Nat × List Nat)} {M : List (Nat × List Nat)} {listed : Array Bool} {op : Op} {ty : TypeId} {v : Value} {dst : Option Tmp} {pos : String} {after : Array Edge} {b b' : Bool}
theorem M7 (hi : ops[i]? = some ⟨dst, op, ty, pos, after, none⟩) (hf : ko .any ops listed i = true) (h : Y P L w0 op ty v) (hd : gH N dst = true) (hr : Wt l (WN P ops (fW Q) w0 n (listed.setIfInBounds i true) N (bL dst v L) w)) : Wt (i :: l) (WN P ops (fW Q) w0 (n + 1) listed N L w) := ⟨cR i hi hf h hd hr.o⟩
theorem Np (hi : ops[i]? = some ⟨dst, op, ty, pos, after, none⟩) (hf : lV (M.map (·.1)) pre .any ops listed i (ey .any ops listed i) = true) (h : ∀ w', aX (iL M pre) w w' → Y P L w' op ty v) (hd : gH N dst = true) (hr : Wu l' (WJ P ops (fW Q) M n (listed.setIfInBounds i true) N (bL dst v L) w)) : Wu ((i, pre) :: l') (WJ P ops (fW Q) M (n + 1) listed N L w) := ⟨Mj i pre hi hf h hd hr.o⟩
end
section
variable {P : Program} {ops : Array Oper} {Q : Exit → Act → World → Prop} {N : Nd} {L : List (Nat × Value)} {w : World} {n : Nat} {l : List Oper} {a b c d e f g p} {c' : Code}
theorem MQ (h : WL P ops Q (⟨a, b, c, d, e, none⟩ :: l) N L w) : WL P ops Q (⟨a, b, c, d, e, none⟩ :: l) N L w := h
theorem MP (h : WL P ops Q (⟨a, b, c, d, e, some f⟩ :: l) N L w) : WL P ops Q (⟨a, b, c, d, e, some f⟩ :: l) N L w := h
theorem NJ {t x} (h : WL P ops Q (⟨a, .box t x, c, d, e, none⟩ :: l) N L w) : WL P ops Q (⟨a, .box t x, c, d, e, none⟩ :: l) N L w := h
theorem MN {t} (h : WL P ops Q (⟨a, .alloc t, c, d, e, none⟩ :: l) N L w) : WL P ops Q (⟨a, .alloc t, c, d, e, none⟩ :: l) N L w := h
theorem Nn {t x y} (h : WL P ops Q (⟨a, .store t x y, c, d, e, none⟩ :: l) N L w) : WL P ops Q (⟨a, .store t x y, c, d, e, none⟩ :: l) N L w := h
theorem M8 (h : WC P Q c' N L w) : WC P Q c' N L w := h
theorem Nu (h : WQ Q g N L w) : WQ Q g N L w := h
theorem MX (h : WM P ops Q n f N L w) : WM P ops Q n f N L w := h
theorem NV (h : Wt g p) : Wt g p := h
theorem Nw (h : Wu g p) : Wu g p := h
end
section
variable {P : Program} {ops : Array Oper} {Q : Exit → Act → World → Prop} {N : Nd} {L : List (Nat × Value)} {w : World} {rest : List Oper} {dst : Option Tmp} {ty t e : TypeId} {x y : Operand} {pos : String} {after : Array Edge} {cs : Array Value} {v : Value} {g i : Nat}
theorem OC (hx : ev L x = some (.agg cs)) (hd : gH N dst = true) (hr : ∀ w' g, ao w' g t cs → w.heap.size ≤ g → Ext w w' → WL P ops Q rest N (bL dst (.pointer (some ⟨g, 0, none⟩)) L) w') : WL P ops Q (⟨dst, .box t x, ty, pos, after, none⟩ :: rest) N L w :=
 af (nc hx rfl) hd (by rintro _ w' ⟨g, rfl, B, h, e⟩; exact hr w' g B h e)
theorem Ok (hx : ev L x = some v) (hd : gH N dst = true) (hr : ∀ w' g, ao w' g t v.cells → w.heap.size ≤ g → Ext w w' → WL P ops Q rest N (bL dst (.pointer (some ⟨g, 0, none⟩)) L) w') : WL P ops Q (⟨dst, .box t x, ty, pos, after, none⟩ :: rest) N L w :=
 af (nc hx rfl) hd (by rintro _ w' ⟨g, rfl, B, h, e⟩; exact hr w' g B h e)
theorem N7 (hz : (P.info? t).map (fun i => i.zero.map (·.cells)) = some (some cs)) (hd : gH N dst = true) (hr : ∀ w' g, ao w' g t cs → w.heap.size ≤ g → Ext w w' → WL P ops Q rest N (bL dst (.pointer (some ⟨g, 0, none⟩)) L) w') : WL P ops Q (⟨dst, .alloc t, ty, pos, after, none⟩ :: rest) N L w :=
 af (dL hz) hd (by rintro _ w' ⟨g, rfl, B, h, e⟩; exact hr w' g B h e)
theorem Oh (hx : ev L x = some (.pointer (some ⟨g, i, none⟩))) (hy : ev L y = some v) (h1 : v.oneCell' = true) (hs : (P.info? t).map (·.size) = some 1) (hg : ao w g e cs) (hi : i < cs.size) (hd : gH N dst = true) (hr : ∀ w', ao w' g e (cs.setIfInBounds i v) → j7 w g w' → WL P ops Q rest N (bL dst undef L) w') : WL P ops Q (⟨dst, .store t x y, ty, pos, after, none⟩ :: rest) N L w :=
 af (az hx hy h1 hs hg hi) hd (by rintro _ w' ⟨rfl, B, c⟩; exact hr w' B c)
theorem OE {o : Nat} {old : Array Value} (hx : ev L x = some (.pointer (some ⟨g, o, none⟩))) (hy : ev L y = some (.agg cs)) (hs : (P.info? t).map (·.size) = some cs.size) (hg : ao w g e old) (ho : o + cs.size ≤ old.size) (h1 : cs.all (·.oneCell') = true) (hd : gH N dst = true) (hr : ∀ w', ao w' g e (old.toList.take o ++ cs.toList ++ old.toList.drop (o + cs.size)).toArray → j7 w g w' → WL P ops Q rest N (bL dst undef L) w') : WL P ops Q (⟨dst, .store t x y, ty, pos, after, none⟩ :: rest) N L w :=
 af (bA hx hy hs hg ho h1) hd (by rintro _ w' ⟨rfl, B, c⟩; exact hr w' B c)
end
section
variable {P : Program} {ops : Array Oper} {Q : Exit → Act → World → Prop} {N : Nd} {L : List (Nat × Value)} {w w0 : World} {fl : List Fl} {n : Nat} {listed : Array Bool} {f : FuncId} {xs : List Operand} {ats : Array TypeId} {vs : List Value} {fn : Func} {c : Code} {ty : TypeId} {pos : String} {after : Array Edge}
theorem HQ {p : Prop} (h : p := by
 repeat (first
  | exact av
  | refine aS ?_ ?_
  | exact bw rfl Kr
  | exact vh (z := .int .u8 0) rfl Tn.u Kr rfl rfl rfl rfl rfl
  | exact ⟨rfl, of_decide_eq_true rfl⟩
  | exact aR Kr
  | exact of_decide_eq_true rfl)) : p := h
theorem jj (j : Nat) (dst : Option Tmp) (hf : P.funcs[f]? = some fn) (h : ∀ w1, Ext w w1 → Ext w0 w1 → ∃ R : Ending → World → Prop, Calls P f vs.toArray w1 R ∧ ∀ e w', R e w' → ∃ v, e = .returned v ∧ Ext w1 w' ∧ WF P ops Q w0 fl n (listed.setIfInBounds j true) N (bL dst v L) w')
 (hi : ops[j]? = some ⟨dst, .call { callee := .value (.func f), args := xs.toArray, argTypes := ats }, ty, pos, after, none⟩ := by exact rfl) (hx : lI L xs = some vs := by exact rfl) (ok : mF P ops w0 fl listed N L := by exact ⟨HQ, of_decide_eq_true rfl, of_decide_eq_true rfl, HQ, HQ⟩) (hr : Region.ready .any ops (dC listed fl) = [j] := by kernel_rfl) (hj : ∀ f ∈ fl, f.i ≠ j := by exact HQ) (hb : fn.body = some c := by exact rfl) (hn : (fn.name == "runtime.NumGoroutine") = false := by exact rfl) (hdst : ∀ f ∈ fl, dst ≠ some f.d := by exact HQ) (hd : gH N dst = true := by exact rfl) : WF P ops Q w0 fl (n + 1) listed N L w := EZ ok hr hj hi hf hb hn hx hdst hd h
theorem Od {p : Prop} {fs : List Fl} (ok : mF P ops w0 fs listed N L → p) (h : mF P ops w0 fs listed N L := by exact ⟨HQ, of_decide_eq_true rfl, of_decide_eq_true rfl, HQ, HQ⟩) : p := ok h
end
structure Fu (n : Nat) : Prop where o : True
theorem Fu.p {n : Nat} (_ : Fu (n + 1)) : Fu n := ⟨⟨⟩⟩
theorem au (n : Nat) {p q : Prop} (h : q) (f : NF q → Fu n → p := by
 intro h k
 repeat (
  replace k := k.p
  first
  | (apply MQ
     first
     | refine Eo ay rfl ?_
     | (apply NJ
        first
        | refine OC rfl rfl ?_
        | refine Ok rfl rfl ?_)
     | (apply MN
        first
        | refine N7 (OD rfl) rfl ?_
        | refine N7 (Ow rfl rfl) rfl ?_)
     | (apply Nn
        first
        | refine Oh rfl rfl rfl tz (by assumption) (by exact Nat.le_of_ble_eq_true rfl) rfl ?_
        | refine OE rfl rfl (MG rfl) (by assumption) (by exact Nat.le_of_ble_eq_true rfl) (bf rfl) rfl ?_))
  | refine KR ?_
  | (apply MP
     first
     | refine Nj _ rfl rfl (by with_reducible rfl) rfl ?_
     | refine NA _ rfl rfl (by with_reducible rfl) rfl ?_
     | refine Oz _ rfl rfl (by with_reducible rfl) ay rfl ?_)
  | (apply M8
     first
     | refine zh ?_
     | refine Lo ?_
     | refine GY ?_
     | refine KQ ?_
     | refine BM ?_
     | refine bP rfl (by with_reducible rfl) ?_
     | refine cm rfl (by with_reducible rfl) ?_
     | refine GP ?_
     | refine EA ?_)
  | (apply Nu
     first
     | refine Lx ?_
     | refine KL ?_
     | refine uS ?_
     | refine sy ?_
     | refine rQ ?_
     | refine td ?_
     | refine xc ?_
     | refine vA ?_)
  | (apply NV
     first
     | refine JD ?_
     | refine NP rfl Kr (fun _ => ay) rfl ?_
     | refine NN rfl Kr ay rfl ?_
     | refine wt_gy _ rfl Kr rfl rfl (by with_reducible rfl) ay rfl ?_
     | refine wt_gno _ rfl Kr rfl rfl (by with_reducible rfl) rfl ?_
     | refine wt_gnf _ rfl Kr rfl rfl (by with_reducible rfl) rfl ?_
     | refine M7 rfl Kr ay rfl ?_)
  | (apply Nw
     first
     | refine Np rfl Kr (fun _ _ => ay) rfl ?_
     | refine Kh ?_)
  | (apply MX
     refine nQ (by first | decide +kernel | exact rfl) ?_)
  | refine ⟨_, rfl, .inr (by assumption), ?_⟩
  | refine ⟨_, rfl, ?_⟩)
 exact h.o) : p := f ⟨h⟩ ⟨⟨⟩⟩
theorem aU {p q : Prop} (h : q) (f : NF q → p := by
 intro h
 refine au 99 ?_
 exact h.o) : p := f ⟨h⟩
structure Ll (l : List Nat) : Prop where o : True
theorem M6 {l : List Nat} (_ : Ll l) {p : Prop} (h : Wt l p) : p := h.o
theorem zm (l : List Nat) {p q : Prop} (h : q) (f : NF q → Ll l → p := by
 intro h k
 refine au 99 ?_
 refine M6 k ?_
 refine au 99 ?_
 exact h.o) : p := f ⟨h⟩ ⟨⟨⟩⟩
end Go.Proofs.YtgfafidlkldeaaaGreat
