/- The law NodeCopies: which nodes are the same, and that a copy shares no memory. -/
import Derived.Test.YtopimmomkapdoaaNdK
import Derived.Test.YtopimmomkapdoaaNdM
namespace Go.Proofs.Ytopimmomkapdoaa
open Go.RowKit
attribute [local irreducible] Y Ef WL WC WK WQ WM OpM WN WF OpN WJ OpJ
open Wire Nd
def isB (v : Value) : Prop := ∃ x : UInt8, v = bv x
def isZ (v : Value) : Prop := ∃ z : Int, v = zv z
/-- Places that may be written, all in blocks of S. -/
def Wq (Q : Value → Prop) (S : List Nat) (w : World) (A : Option Addr) (n : Nat) : Prop :=
  ∀ k, k < n → ∃ g v, A = some ⟨g, 0, none⟩ ∧ g ∈ S ∧ w.cell? ⟨g, 0 + k, none⟩ = some v ∧ Q v ∧ w.frozen? ⟨g, 0 + k, none⟩ = false
def blkL : Option Addr → List Nat
  | some a => [a.block]
  | none => []
section
variable {Q : Value → Prop} {S : List Nat} {w w' : World} {A : Option Addr} {n : Nat}
theorem Wq.set (h : Wq Q S w A n) {ad : Addr} {v old : Value} (hc : w.cell? ad = some old) (hq : Q old → Q v) : Wq Q S (w.setCell ad v) A n := fun k hk => by
  obtain ⟨g, u, h1, h2, h3, h4, h5⟩ := h k hk
  by_cases e : ad = ⟨g, 0 + k, none⟩
  · subst e
    have hu : u = old := by rw [h3] at hc; injection hc
    subst hu
    exact ⟨g, v, h1, h2, World.cell?_setCell_same _ _ _ h3, hq h4, by rw [World.frozen?_setCell]; exact h5⟩
  · exact ⟨g, u, h1, h2, by rw [World.cell?_setCell_other (h := e)]; exact h3, h4, by rw [World.frozen?_setCell]; exact h5⟩
theorem Row.wq {base c : Nat} {e : TypeId} {xs : List Value} (h : Row w base e A n c xs) (hQ : ∀ v ∈ xs, Q v) (hS : ∀ g ∈ blkL A, g ∈ S) : Wq Q S w A n := fun k hk => by
  obtain ⟨g, v, h1, h2, h3, _, _, h4⟩ := h.get hk
  exact ⟨g, v, h1, hS g (by rw [h1]; exact List.mem_singleton.2 rfl), h3, hQ v (List.mem_of_getElem? h2), h4⟩
theorem Row.blkL {base c : Nat} {e : TypeId} {xs : List Value} (h : Row w base e A n c xs) : ∀ g ∈ blkL A, base ≤ g ∧ g < w.heap.size := fun g hg => by
  cases A with
  | none => cases hg
  | some a =>
    obtain ⟨b, o, s⟩ := a
    have hb : g = b := List.mem_singleton.1 hg
    subst hb
    have hs := h.none_s g o s rfl
    subst hs
    exact Row.lt h
end
def alls (i0 i1 i2 i4 i5 p0 p1 : Hd) : Array Value := #[i0.v, i1.v, i2.v, i4.v, i5.v, p0.v, p1.v]
def allh (i0 i1 i2 i4 i5 p0 p1 : Hd) : Nat → Hd
  | 0 => i0
  | 1 => i1
  | 2 => i2
  | 3 => i4
  | 4 => i5
  | 5 => p0
  | _ => p1
theorem alls_at {i0 i1 i2 i4 i5 p0 p1 : Hd} : ∀ i, i < 7 → (alls i0 i1 i2 i4 i5 p0 p1)[i]? = some (allh i0 i1 i2 i4 i5 p0 p1 i).v
  | 0, _ => rfl
  | 1, _ => rfl
  | 2, _ => rfl
  | 3, _ => rfl
  | 4, _ => rfl
  | 5, _ => rfl
  | 6, _ => rfl
  | i + 7, h => absurd h (by omega)
/-- All of a copy's places. -/
def Wr (S : List Nat) (w : World) (hd : Nat → Hd) (z : Hd) : Prop := (∀ i, i < 7 → Wq isB S w (hd i).A (hd i).n) ∧ Wq isZ S w z.A z.n
theorem Wr.ext {S : List Nat} {w w' : World} {hd : Nat → Hd} {z : Hd} (h : Wr S w hd z) (e : Ext w w') : Wr S w' hd z := by
  have key : ∀ {Q A n}, Wq Q S w A n → Wq Q S w' A n := fun h k hk => by
    obtain ⟨g, u, h1, h2, h3, h4, h5⟩ := h k hk
    have hb := cell_lt h3
    exact ⟨g, u, h1, h2, (e.cell hb).trans h3, h4, (World.frozen?_of_block (e.block _ hb)).trans h5⟩
  exact ⟨fun i hi => key (h.1 i hi), key h.2⟩
theorem Wr.set {S : List Nat} {w : World} {hd : Nat → Hd} {z : Hd} (h : Wr S w hd z) {ad : Addr} {v old : Value} (hc : w.cell? ad = some old) (h1 : isB old → isB v) (h2 : isZ old → isZ v) : Wr S (w.setCell ad v) hd z :=
  ⟨fun i hi => (h.1 i hi).set hc h1, h.2.set hc h2⟩
def blkN (i0 i1 i2 i4 i5 p0 p1 p2 : Hd) : List Nat := blkL i0.A ++ (blkL i1.A ++ (blkL i2.A ++ (blkL i4.A ++ (blkL i5.A ++ (blkL p0.A ++ (blkL p1.A ++ blkL p2.A))))))
theorem NodeR.wr {w : World} {base k s : Nat} {n : Node} {i0 i1 i2 i4 i5 p0 p1 p2 : Hd} (h : NodeR base w (nodeV k i0 i1 i2 s i4 i5 p0 p1 p2) n) (hf : n.Fit) :
    (∃ S, Wr S w (allh i0 i1 i2 i4 i5 p0 p1) p2 ∧ ∀ g ∈ S, base ≤ g ∧ g < w.heap.size) ∧ (∀ i, i < 7 → (allh i0 i1 i2 i4 i5 p0 p1 i).n ≤ 1000000) ∧ p2.n ≤ 1000000 := by
  obtain ⟨j0, j1, j2, j4, j5, r0, r1, r2, e, hk, hs, q0, q1, q2, q4, q5, t0, t1, t2, _⟩ := h
  have e0 : (j0 = i0 ∧ j1 = i1 ∧ j2 = i2 ∧ j4 = i4 ∧ j5 = i5) ∧ r0 = p0 ∧ r1 = p1 ∧ r2 = p2 := by
    unfold nodeV at e
    simp only [Array.mk.injEq, List.cons.injEq, Value.slice.injEq, and_true, true_and] at e
    obtain ⟨_, a, b, c, _, d, f, u, v, x⟩ := e
    refine ⟨⟨?_, ?_, ?_, ?_, ?_⟩, ?_, ?_, ?_⟩
    · cases i0; cases j0; simp_all
    · cases i1; cases j1; simp_all
    · cases i2; cases j2; simp_all
    · cases i4; cases j4; simp_all
    · cases i5; cases j5; simp_all
    · cases p0; cases r0; simp_all
    · cases p1; cases r1; simp_all
    · cases p2; cases r2; simp_all
  obtain ⟨⟨rfl, rfl, rfl, rfl, rfl⟩, rfl, rfl, rfl⟩ := e0
  have hB : ∀ xs : List UInt8, ∀ v ∈ xs.map bv, isB v := fun xs v hv => by obtain ⟨x, _, rfl⟩ := List.mem_map.1 hv; exact ⟨x, rfl⟩
  have hZ : ∀ xs : List Int, ∀ v ∈ xs.map zv, isZ v := fun xs v hv => by obtain ⟨x, _, rfl⟩ := List.mem_map.1 hv; exact ⟨x, rfl⟩
  have L : ∀ {h : Hd} {xs : List UInt8}, Row w base 5 h.A h.n h.c (xs.map bv) → xs.length ≤ 1000000 → h.n ≤ 1000000 := fun r hl => by have := r.len; rw [List.length_map] at this; omega
  obtain ⟨⟨f0, f1, f2, f4, f5⟩, f6, f7, f8⟩ := hf
  refine ⟨?_, fun i hi => ?_, by have := t2.len; rw [List.length_map] at this; omega⟩
  rotate_left
  · match i, hi with
    | 0, _ => exact L q0 f0
    | 1, _ => exact L q1 f1
    | 2, _ => exact L q2 f2
    | 3, _ => exact L q4 f4
    | 4, _ => exact L q5 f5
    | 5, _ => exact L t0 f6
    | 6, _ => exact L t1 f7
    | i + 7, h => exact absurd h (by omega)
  refine ⟨blkN j0 j1 j2 j4 j5 r0 r1 r2, ⟨fun i hi => ?_, t2.wq (hZ _) (fun g hg => by unfold blkN; simp only [List.mem_append, hg, or_true])⟩, fun g hg => ?_⟩
  · match i, hi with
    | 0, _ => exact q0.wq (hB _) (fun g hg => by unfold blkN; simp only [List.mem_append, hg, true_or])
    | 1, _ => exact q1.wq (hB _) (fun g hg => by unfold blkN; simp only [List.mem_append, hg, true_or, or_true])
    | 2, _ => exact q2.wq (hB _) (fun g hg => by unfold blkN; simp only [List.mem_append, hg, true_or, or_true])
    | 3, _ => exact q4.wq (hB _) (fun g hg => by unfold blkN; simp only [List.mem_append, hg, true_or, or_true])
    | 4, _ => exact q5.wq (hB _) (fun g hg => by unfold blkN; simp only [List.mem_append, hg, true_or, or_true])
    | 5, _ => exact t0.wq (hB _) (fun g hg => by unfold blkN; simp only [List.mem_append, hg, true_or, or_true])
    | 6, _ => exact t1.wq (hB _) (fun g hg => by unfold blkN; simp only [List.mem_append, hg, true_or, or_true])
    | i + 7, h => exact absurd h (by omega)
  · unfold blkN at hg
    simp only [List.mem_append] at hg
    rcases hg with h | h | h | h | h | h | h | h
    · exact q0.blkL g h
    · exact q1.blkL g h
    · exact q2.blkL g h
    · exact q4.blkL g h
    · exact q5.blkL g h
    · exact t0.blkL g h
    · exact t1.blkL g h
    · exact t2.blkL g h
section
variable {S : List Nat} {w w' : World} {cs : Array Value} {n : Node} {base : Nat}
theorem NodeR.kpS (h : NodeR base w cs n) (hS : ∀ g ∈ S, g < base) : Kp w.heap.size S (fun w => NodeAt w cs n) w :=
  ⟨Nat.le_refl _, fun w2 hw => NodeC.imp h (fun _ _ r => Row.bs ((Kp.row r hS).2 w2 hw)) (fun _ _ r => Row.zs ((Kp.row r.1 hS).2 w2 hw) r.2)⟩
theorem NodeAt.kpS (h : NodeAt w cs n) (e : Ext w w') (hS : ∀ g ∈ S, w.heap.size ≤ g) : Kp w'.heap.size S (fun w => NodeAt w cs n) w' :=
  ⟨Nat.le_refl _, fun w2 hw => NodeC.imp h
    (fun q xs b => (Kp.bs (S := S) (Bs.ext b e) fun hn g hg o hA => by
      have h := hS g hg
      obtain ⟨b', off, hA', hb', _⟩ := (show Bs w q.A q.n xs from b).2.get (k := 0) (by rw [List.length_map, b.1]; exact hn)
      rw [hA'] at hA
      injection hA with hA
      injection hA with hA
      omega).2 w2 hw)
    (fun q zs b => (Kp.zsI (S := S) (Zs.ext b e) fun hn g hg o hA => by
      have h := hS g hg
      obtain ⟨b', off, hA', hb', _⟩ := (show Zs w q.A q.n zs from b).2.1.get (k := 0) (by rw [List.length_map, b.1]; exact hn)
      rw [hA'] at hA
      injection hA with hA
      injection hA with hA
      omega).2 w2 hw)⟩
theorem Blk.kpS {b : Nat} {t : TypeId} {cs : Array Value} (h : Blk w b t cs) (hb : b ∉ S) : Kp w.heap.size S (fun w => Blk w b t cs) w := ⟨Nat.le_refl _, fun _ hw => (hw b h.lt hb).trans h⟩
end
theorem xor255 : ∀ x : Fin 256, x.val ^^^ 255 < 256 := by decide +kernel
theorem isB_not {x : UInt8} : isB (.int .u8 ((x.toNat ^^^ 255 : Nat) : Int)) := ⟨UInt8.ofNat (x.toNat ^^^ 255), by
  have h := xor255 ⟨x.toNat, UInt8.toNat_lt x⟩
  unfold bv; congr 2; rw [UInt8.toNat_ofNat']; exact (Nat.mod_eq_of_lt h).symm⟩
set_option maxHeartbeats 1000000 in
theorem nodeCopies_law (ca : Array Value) (a : Node) (cb : Array Value) (b : Node) (w : World) (HA : NodeAt w ca a) (HB : NodeAt w cb b) :
    Calls Try.prog 7 #[.agg ca, .agg cb] w fun e w' => e = .returned (.bool true) ∧ Below w.heap.size w w' := by
  have E := Ext.refl w
  have HA0 := HA
  have HB0 := HB
  obtain ⟨h0, h1, h2, h4, h5, p0, p1, p2, rfl, _⟩ := HA0
  obtain ⟨k0, k1, k2, k4, k5, q0, q1, q2, rfl, _⟩ := HB0
  refine vc_enter1 109 Try.func7 rfl rfl rfl rfl ?_
  intro Q hret
  refine wc_seq ?_; intro K1 hK1
  refine wc_region ?_
  refine wl_ef (ef_box rfl rfl) rfl ?_
  rintro _ wB2 ⟨gB2, rfl, B2, hgB2, ex⟩
  have lB2 := B2.lt; have zB2 := ex.size
  replace E := E.ext ex
  refine wl_ef (ef_box rfl rfl) rfl ?_
  rintro _ wB3 ⟨gB3, rfl, B3, hgB3, ex⟩
  have lB3 := B3.lt; have zB3 := ex.size
  replace E := E.ext ex
  replace B2 := B2.ext ex
  refine wl_y (y_assign rfl) rfl ?_
  refine wl_nil ?_
  refine wq_then_norm (hK1 ?_)
  refine wc_seq ?_; intro K2 hK2
  refine wc_seq ?_; intro K3 hK3
  refine wc_region ?_
  refine wl_call Try.func11 rfl rfl rfl (alive16_any _) rfl ?_
  rintro e w1 ⟨rfl, ex⟩
  refine ⟨_, rfl, ?_⟩
  replace E := E.ext ex
  replace B2 := B2.ext ex
  replace B3 := B3.ext ex
  refine wl_y (y_not rfl) rfl ?_
  refine wl_nil ?_
  refine wq_then_norm (hK3 ?_)
  refine wc_false rfl rfl ?_
  refine wc_skip ?_
  refine wq_then_norm (hK2 ?_)
  refine wc_seq ?_; intro K4 hK4
  refine wc_seq ?_; intro K5 hK5
  refine wc_region ?_
  refine wl_y (y_loadx (o := 0) (s := 10) rfl Try.underlying30 rfl (by kernel_rfl) B2 rfl) rfl ?_
  refine wl_call Try.func21 rfl rfl rfl (small_any _ (HA.ext E)) rfl ?_
  rintro e w2 ⟨rfl, ex⟩
  refine ⟨_, rfl, ?_⟩
  replace E := E.ext ex
  replace B2 := B2.ext ex
  replace B3 := B3.ext ex
  skip
  refine wl_y (y_not rfl) rfl ?_
  refine wl_yaskb (y_move rfl) rfl (fun u0 => ?_) (fun u0 => ?_)
  · skip
    refine wl_gno 16 rfl rfl rfl rfl ?_
    refine wl_gno 16 rfl rfl rfl rfl ?_
    refine wl_gno 16 rfl rfl rfl rfl ?_
    refine wl_y (y_pickt rfl rfl) rfl ?_
    refine wl_nil ?_
    refine wq_then_norm (hK5 ?_)
    refine wc_true rfl rfl ?_
    refine wc_seq ?_; intro K6 hK6
    refine wc_region ?_
    refine wl_y (y_assign rfl) rfl ?_
    refine wl_nil ?_
    refine wq_then_norm (hK6 ?_)
    refine wc_ret ?_
    refine wq_then_ret ?_
    refine hret rfl ?_
    exact ⟨rfl, E⟩
  · skip
    refine wl_gy 16 rfl rfl (y_loadx (o := 0) (s := 10) rfl Try.underlying30 rfl (by kernel_rfl) B3 rfl) rfl ?_
    refine wl_gcall 16 rfl rfl Try.func21 rfl rfl rfl (small_any _ (HB.ext E)) rfl ?_
    rintro e w3 ⟨rfl, ex⟩
    refine ⟨_, rfl, ?_⟩
    replace E := E.ext ex
    replace B2 := B2.ext ex
    replace B3 := B3.ext ex
    skip
    refine wl_gy 16 rfl rfl (y_not rfl) rfl ?_
    refine wl_y (y_pickf rfl rfl) rfl ?_
    refine wl_nil ?_
    refine wq_then_norm (hK5 ?_)
    refine wc_cond rfl (fun hc2 => ?_) (fun hc2 => ?_)
    · skip
      refine wc_seq ?_; intro K7 hK7
      refine wc_region ?_
      refine wl_y (y_assign rfl) rfl ?_
      refine wl_nil ?_
      refine wq_then_norm (hK7 ?_)
      refine wc_ret ?_
      refine wq_then_ret ?_
      refine hret rfl ?_
      exact ⟨rfl, E⟩
    · skip
      refine wc_skip ?_
      refine wq_then_norm (hK4 ?_)
      refine wc_seq ?_; intro K8 hK8
      refine wc_seq ?_; intro K9 hK9
      have sa : a.Small := by simpa using u0
      have sb : b.Small := by simpa using hc2
      have fa := sa.fit
      have fb := sb.fit
      refine wc_draw (by kernel_rfl) 13 rfl ?_; intro wd5 ex hd5
      replace E := E.ext ex
      replace B2 := B2.ext ex
      replace B3 := B3.ext ex
      refine wm_y 0 rfl (by kernel_rfl) (y_loadx (o := 0) (s := 10) rfl Try.underlying30 rfl (by kernel_rfl) B2 rfl) rfl ?_
      refine wm_y 1 rfl (by kernel_rfl) (y_loadx (o := 0) (s := 10) rfl Try.underlying30 rfl (by kernel_rfl) B3 rfl) rfl ?_
      refine wm_y 3 rfl (by kernel_rfl) (y_loadx (o := 0) (s := 10) rfl Try.underlying30 rfl (by kernel_rfl) B2 rfl) rfl ?_
      refine wm_y 4 rfl (by kernel_rfl) (y_loadx (o := 0) (s := 10) rfl Try.underlying30 rfl (by kernel_rfl) B3 rfl) rfl ?_
      refine wm_one 2 (by kernel_rfl) ?_; refine om_call rfl Try.func29 rfl rfl rfl (nsame_any _ (HA.ext E) (HB.ext E) fa fb) rfl ?_
      rintro e w4 ⟨rfl, ex⟩
      refine ⟨_, rfl, .inr ex, ?_⟩
      replace E := E.ext ex
      replace B2 := B2.ext ex
      replace B3 := B3.ext ex
      skip
      refine wm_one 5 (by kernel_rfl) ?_; refine om_call rfl Try.func14 rfl rfl rfl (rsame16_any _ (HA.ext E) (HB.ext E) fa fb) rfl ?_
      rintro e w5 ⟨rfl, ex⟩
      refine ⟨_, rfl, .inr ex, ?_⟩
      replace E := E.ext ex
      replace B2 := B2.ext ex
      replace B3 := B3.ext ex
      skip
      refine wm_y 6 rfl (by kernel_rfl) (Y.as (y_neqb rfl rfl Try.underlying4) (show Value.bool _ = .bool false by rw [beq_self_eq_true]; rfl)) rfl ?_
      refine wm_y 7 rfl (by kernel_rfl) (y_move rfl) rfl ?_
      refine wm_gy 8 rfl (by kernel_rfl) 28 rfl rfl (y_loadx (o := 0) (s := 10) rfl Try.underlying30 rfl (by kernel_rfl) B2 rfl) rfl ?_
      refine wm_gy 9 rfl (by kernel_rfl) 28 rfl rfl (y_loadx (o := 0) (s := 10) rfl Try.underlying30 rfl (by kernel_rfl) B2 rfl) rfl ?_
      refine wm_one 10 (by kernel_rfl) ?_; refine om_gcall rfl 28 rfl rfl Try.func29 rfl rfl rfl (nsame_any _ (HA.ext E) (HA.ext E) fa fa) rfl ?_
      rintro e w6 ⟨rfl, ex⟩
      refine ⟨_, rfl, .inr ex, ?_⟩
      replace E := E.ext ex
      replace B2 := B2.ext ex
      replace B3 := B3.ext ex
      rw [decide_eq_true rfl]
      refine wm_gy 11 rfl (by kernel_rfl) 28 rfl rfl (y_not rfl) rfl ?_
      refine wm_y 12 rfl (by kernel_rfl) (y_pickf rfl rfl) rfl ?_
      refine wm_done (by kernel_rfl) ?_
      refine wq_nop ?_
      refine wq_then_norm (hK9 ?_)
      refine wc_false rfl rfl ?_
      refine wc_skip ?_
      refine wq_then_norm (hK8 ?_)
      refine wc_seq ?_; intro K10 hK10
      refine wc_region ?_
      refine wl_y (y_loadx (o := 0) (s := 10) rfl Try.underlying30 rfl (by kernel_rfl) B2 rfl) rfl ?_
      have z7 := E.size; have m2 := B2.lt
      refine wl_call Try.func30 rfl rfl rfl (copy16_any _ (HA.ext E) fa) rfl ?_
      rintro e w7 ⟨cs7, rfl, RC, ex⟩
      refine ⟨_, rfl, ?_⟩
      replace E := E.ext ex
      replace B2 := B2.ext ex
      replace B3 := B3.ext ex
      have RC2 := RC; obtain ⟨i0, i1, i2, i4, i5, o0, o1, ⟨Z, zn, zc⟩, rfl, _⟩ := RC2; obtain ⟨⟨S, WR, hS⟩, hN, hZn⟩ := RC.wr fa; replace hZn : zn ≤ 1000000 := hZn
      refine wl_ef (ef_alloc (Z := #[.int .u8 0, .slice none 0 0, .slice none 0 0, .slice none 0 0, .int .u8 0, .slice none 0 0, .slice none 0 0, .slice none 0 0, .slice none 0 0, .slice none 0 0]) (by kernel_rfl)) rfl ?_
      rintro _ wA5 ⟨gB5, rfl, D5, hgB5, exA⟩
      refine wl_ef (ef_storeP (o := 0) rfl rfl (by kernel_rfl) D5 (Nat.le_of_ble_eq_true rfl) (all_ones rfl)) rfl ?_
      rintro _ wB5 ⟨rfl, B5, cg⟩
      have ex := exA.chg cg hgB5; clear cg exA D5
      have lB5 := B5.lt; have zB5 := ex.size
      replace E := E.ext ex
      replace B2 := B2.ext ex
      replace B3 := B3.ext ex
      replace RC := RC.ext ex
      replace WR := WR.ext ex
      refine wl_nil ?_
      refine wq_then_norm (hK10 ?_)
      refine wc_seq ?_; intro K11 hK11
      refine wc_region ?_
      refine wl_y (y_loadx (o := 0) (s := 10) rfl Try.underlying30 rfl (by kernel_rfl) B2 rfl) rfl ?_
      have z8 := E.size; have m5 := B5.lt
      refine wl_call Try.func30 rfl rfl rfl (copy16_any _ (HA.ext E) fa) rfl ?_
      rintro e w8 ⟨cs8, rfl, RW, ex⟩
      refine ⟨_, rfl, ?_⟩
      replace E := E.ext ex
      replace B2 := B2.ext ex
      replace B3 := B3.ext ex
      replace RC := RC.ext ex
      replace WR := WR.ext ex
      replace B5 := B5.ext ex
      have y8 := ex.size; have RW2 := RW; obtain ⟨t0, t1, t2, t4, t5, y0, y1, y2, rfl, _⟩ := RW2
      refine wl_ef (ef_alloc (Z := #[.int .u8 0, .slice none 0 0, .slice none 0 0, .slice none 0 0, .int .u8 0, .slice none 0 0, .slice none 0 0, .slice none 0 0, .slice none 0 0, .slice none 0 0]) (by kernel_rfl)) rfl ?_
      rintro _ wA6 ⟨gB6, rfl, D6, hgB6, exA⟩
      refine wl_ef (ef_storeP (o := 0) rfl rfl (by kernel_rfl) D6 (Nat.le_of_ble_eq_true rfl) (all_ones rfl)) rfl ?_
      rintro _ wB6 ⟨rfl, B6, cg⟩
      have ex := exA.chg cg hgB6; clear cg exA D6
      have lB6 := B6.lt; have zB6 := ex.size
      replace E := E.ext ex
      replace B2 := B2.ext ex
      replace B3 := B3.ext ex
      replace RC := RC.ext ex
      replace WR := WR.ext ex
      replace B5 := B5.ext ex
      replace RW := RW.ext ex
      refine wl_nil ?_
      refine wq_then_norm (hK11 ?_)
      refine wc_seq ?_; intro K12 hK12
      refine wc_seq ?_; intro K13 hK13
      refine wc_region ?_
      refine wl_y (y_loadx (o := 0) (s := 10) rfl Try.underlying30 rfl (by kernel_rfl) B5 rfl) rfl ?_
      refine wl_y (y_loadx (o := 0) (s := 10) rfl Try.underlying30 rfl (by kernel_rfl) B2 rfl) rfl ?_
      refine wl_call Try.func14 rfl rfl rfl (rsame16_any _ RC.at (HA.ext E) fa fa) rfl ?_
      rintro e w9 ⟨rfl, ex⟩
      refine ⟨_, rfl, ?_⟩
      replace E := E.ext ex
      replace B2 := B2.ext ex
      replace B3 := B3.ext ex
      replace RC := RC.ext ex
      replace WR := WR.ext ex
      replace B5 := B5.ext ex
      replace RW := RW.ext ex
      replace B6 := B6.ext ex
      rw [decide_eq_true rfl]
      refine wl_y (y_not rfl) rfl ?_
      refine wl_nil ?_
      refine wq_then_norm (hK13 ?_)
      refine wc_false rfl rfl ?_
      refine wc_skip ?_
      refine wq_then_norm (hK12 ?_)
      refine wc_seq ?_; intro K14 hK14
      refine wc_region ?_
      refine wl_y (y_fieldAddr (o := 1) (s := 6) (off := 0) (o' := 1) rfl Try.underlying30 rfl (by kernel_rfl) rfl rfl) rfl ?_
      refine wl_y (y_fieldAddr (o := 0) (s := 1) (off := 1) (o' := 1) rfl Try.underlying25 rfl (by kernel_rfl) rfl rfl) rfl ?_
      refine wl_y (y_load1 rfl Try.underlying22 rfl (B5.get (i := 1) rfl)) rfl ?_
      refine wl_y (y_fieldAddr (o := 1) (s := 6) (off := 0) (o' := 1) rfl Try.underlying30 rfl (by kernel_rfl) rfl rfl) rfl ?_
      refine wl_y (y_fieldAddr (o := 1) (s := 1) (off := 1) (o' := 2) rfl Try.underlying25 rfl (by kernel_rfl) rfl rfl) rfl ?_
      refine wl_y (y_load1 rfl Try.underlying22 rfl (B5.get (i := 2) rfl)) rfl ?_
      refine wl_y (y_fieldAddr (o := 1) (s := 6) (off := 0) (o' := 1) rfl Try.underlying30 rfl (by kernel_rfl) rfl rfl) rfl ?_
      refine wl_y (y_fieldAddr (o := 2) (s := 1) (off := 1) (o' := 3) rfl Try.underlying25 rfl (by kernel_rfl) rfl rfl) rfl ?_
      refine wl_y (y_load1 rfl Try.underlying22 rfl (B5.get (i := 3) rfl)) rfl ?_
      refine wl_y (y_fieldAddr (o := 1) (s := 6) (off := 0) (o' := 1) rfl Try.underlying30 rfl (by kernel_rfl) rfl rfl) rfl ?_
      refine wl_y (y_fieldAddr (o := 4) (s := 1) (off := 1) (o' := 5) rfl Try.underlying25 rfl (by kernel_rfl) rfl rfl) rfl ?_
      refine wl_y (y_load1 rfl Try.underlying22 rfl (B5.get (i := 5) rfl)) rfl ?_
      refine wl_y (y_fieldAddr (o := 1) (s := 6) (off := 0) (o' := 1) rfl Try.underlying30 rfl (by kernel_rfl) rfl rfl) rfl ?_
      refine wl_y (y_fieldAddr (o := 5) (s := 1) (off := 1) (o' := 6) rfl Try.underlying25 rfl (by kernel_rfl) rfl rfl) rfl ?_
      refine wl_y (y_load1 rfl Try.underlying22 rfl (B5.get (i := 6) rfl)) rfl ?_
      refine wl_y (y_fieldAddr (o := 7) (s := 3) (off := 0) (o' := 7) rfl Try.underlying30 rfl (by kernel_rfl) rfl rfl) rfl ?_
      refine wl_y (y_fieldAddr (o := 0) (s := 1) (off := 7) (o' := 7) rfl Try.underlying28 rfl (by kernel_rfl) rfl rfl) rfl ?_
      refine wl_y (y_load1 rfl Try.underlying22 rfl (B5.get (i := 7) rfl)) rfl ?_
      refine wl_y (y_fieldAddr (o := 7) (s := 3) (off := 0) (o' := 7) rfl Try.underlying30 rfl (by kernel_rfl) rfl rfl) rfl ?_
      refine wl_y (y_fieldAddr (o := 1) (s := 1) (off := 7) (o' := 8) rfl Try.underlying28 rfl (by kernel_rfl) rfl rfl) rfl ?_
      refine wl_y (y_load1 rfl Try.underlying22 rfl (B5.get (i := 8) rfl)) rfl ?_
      have m6 := B6.lt
      refine wl_ef (ef_lit (z := .slice none 0 0) Try.underlying57 (by kernel_rfl) rfl rfl rfl rfl rfl) rfl ?_
      rintro _ w10 ⟨g7, rfl, B7, hg7, ex⟩
      replace E := E.ext ex
      replace B2 := B2.ext ex
      replace B3 := B3.ext ex
      replace RC := RC.ext ex
      replace WR := WR.ext ex
      replace B5 := B5.ext ex
      replace RW := RW.ext ex
      replace B6 := B6.ext ex
      replace B7 : Blk w10 g7 22 (alls i0 i1 i2 i4 i5 o0 o1) := B7
      refine wl_y (y_assign rfl) rfl ?_
      refine wl_nil ?_
      refine wq_then_norm (hK14 ?_)
      refine wc_seq ?_; intro K15 hK15
      refine wc_seq ?_; intro K16 hK16
      refine wc_region ?_
      refine wl_y (y_assign rfl) rfl ?_
      refine wl_nil ?_
      refine wq_then_norm (hK16 ?_)
      refine wc_block ?_
      have E7 := E
      have n2 : gB2 ∉ S := fun h => by have := (hS _ h).1; omega
      have n5 : gB5 ∉ S := fun h => by have := (hS _ h).2; omega
      have n6 : gB6 ∉ S := fun h => by have := (hS _ h).2; omega
      have n7 : g7 ∉ S := fun h => by have := (hS _ h).2; omega
      have F := Chs.refl S w10
      have J2 := B2.kpS n2
      have J5 := B5.kpS n5
      have J6 := B6.kpS n6
      have J7 := B7.kpS n7
      have JA := HA.kpS E (S := S) fun g hg => by have := (hS g hg).1; omega
      have JW := RW.kpS (S := S) fun g hg => by have := (hS g hg).2; omega
      obtain ⟨hd, hhd⟩ : ∃ hd, hd = allh i0 i1 i2 i4 i5 o0 o1 := ⟨_, rfl⟩
      rw [← hhd] at WR hN
      refine wc_loop (fun n' L wr => ∃ (i : Nat), L = [(2, .pointer (some ⟨gB2, 0, none⟩)), (5, .pointer (some ⟨gB5, 0, none⟩)), (6, .pointer (some ⟨gB6, 0, none⟩)), (7, .slice (some ⟨g7, 0, none⟩) 7 7), (8, .int .i64 (i : Int))] ∧ n' = 7 - i ∧ (i ≤ 7 ∧ Chs S w10 wr ∧ Kp w10.heap.size S (fun w => Blk w gB2 30 (nodeV a.kind h0 h1 h2 a.leaf.src h4 h5 p0 p1 p2)) wr ∧ Kp w10.heap.size S (fun w => Blk w gB5 30 (nodeV a.kind i0 i1 i2 a.leaf.src i4 i5 o0 o1 ⟨Z, zn, zc⟩)) wr ∧ Kp w10.heap.size S (fun w => Blk w gB6 30 (nodeV a.kind t0 t1 t2 a.leaf.src t4 t5 y0 y1 y2)) wr ∧ Kp w10.heap.size S (fun w => Blk w g7 22 (alls i0 i1 i2 i4 i5 o0 o1)) wr ∧ Kp w10.heap.size S (fun w => NodeAt w (nodeV a.kind h0 h1 h2 a.leaf.src h4 h5 p0 p1 p2) a) wr ∧ Kp w10.heap.size S (fun w => NodeAt w (nodeV a.kind t0 t1 t2 a.leaf.src t4 t5 y0 y1 y2) a) wr ∧ Wr S wr hd ⟨Z, zn, zc⟩)) _ _ ⟨0, rfl, rfl, by omega, F, J2, J5, J6, J7, JA, JW, WR⟩ ⟨rfl, rfl, rfl, rfl, (by first | rfl | exact congrArg some (int_val (by omega))), trivial⟩ ?_
      rintro KL1 n' L wr ⟨i, rfl, rfl, hi, F, J2, J5, J6, J7, JA, JW, WR⟩ hL1
      refine wc_seq ?_; intro K17 hK17
      refine wc_seq ?_; intro K18 hK18
      refine wc_region ?_
      refine wl_y (y_move rfl) rfl ?_
      refine wl_y (y_move rfl) rfl ?_
      refine wl_y (y_len_slice rfl Try.underlying57) rfl ?_
      refine wl_y (y_lss rfl rfl) rfl ?_
      refine wl_nil ?_
      refine wq_then_norm (hK18 ?_)
      refine wc_dec rfl (fun hc5 => ?_) (fun hc5 => ?_)
      · skip
        refine wc_skip ?_
        refine wq_then_norm (hK17 ?_)
        refine wc_seq ?_; intro K19 hK19
        refine wc_block ?_
        refine wc_seq ?_; intro K20 hK20
        refine wc_region ?_
        refine wl_y (y_assign rfl) rfl ?_
        refine wl_nil ?_
        refine wq_then_norm (hK20 ?_)
        refine wc_block ?_
        have hlt7 : i < 7 := by omega
        obtain ⟨⟨A, n, c⟩, hq⟩ : ∃ q, q = hd i := ⟨_, rfl⟩
        have hci : (alls i0 i1 i2 i4 i5 o0 o1)[i]? = some (.slice A n c) := by rw [alls_at i hlt7, ← hhd, ← hq]; rfl
        have hn6 : n ≤ 1000000 := by have := hN i hlt7; rw [← hq] at this; exact this
        refine wc_loop (fun n' L ws => ∃ (k : Nat), L = [(2, .pointer (some ⟨gB2, 0, none⟩)), (5, .pointer (some ⟨gB5, 0, none⟩)), (6, .pointer (some ⟨gB6, 0, none⟩)), (7, .slice (some ⟨g7, 0, none⟩) 7 7), (8, .int .i64 (i : Int)), (9, .int .i64 (k : Int))] ∧ n' = n - k ∧ (k ≤ n ∧ Chs S w10 ws ∧ Kp w10.heap.size S (fun w => Blk w gB2 30 (nodeV a.kind h0 h1 h2 a.leaf.src h4 h5 p0 p1 p2)) ws ∧ Kp w10.heap.size S (fun w => Blk w gB5 30 (nodeV a.kind i0 i1 i2 a.leaf.src i4 i5 o0 o1 ⟨Z, zn, zc⟩)) ws ∧ Kp w10.heap.size S (fun w => Blk w gB6 30 (nodeV a.kind t0 t1 t2 a.leaf.src t4 t5 y0 y1 y2)) ws ∧ Kp w10.heap.size S (fun w => Blk w g7 22 (alls i0 i1 i2 i4 i5 o0 o1)) ws ∧ Kp w10.heap.size S (fun w => NodeAt w (nodeV a.kind h0 h1 h2 a.leaf.src h4 h5 p0 p1 p2) a) ws ∧ Kp w10.heap.size S (fun w => NodeAt w (nodeV a.kind t0 t1 t2 a.leaf.src t4 t5 y0 y1 y2) a) ws ∧ Wr S ws hd ⟨Z, zn, zc⟩)) _ _ ⟨0, rfl, rfl, by omega, F, J2, J5, J6, J7, JA, JW, WR⟩ ⟨rfl, rfl, rfl, rfl, (by first | rfl | exact congrArg some (int_val (by omega))), (by first | rfl | exact congrArg some (int_val (by omega))), trivial⟩ ?_
        rintro KL2 n' L ws ⟨k, rfl, rfl, hk, F, J2, J5, J6, J7, JA, JW, WR⟩ hL2
        refine wc_seq ?_; intro K21 hK21
        refine wc_seq ?_; intro K22 hK22
        refine wc_region ?_
        refine wl_y (y_move rfl) rfl ?_
        refine wl_y (y_move rfl) rfl ?_
        refine wl_y (y_move rfl) rfl ?_
        refine wl_y (y_ixs1 rfl rfl Try.underlying57 (by kernel_rfl) rfl (by omega)) rfl ?_
        refine wl_y (y_load1 rfl Try.underlying22 rfl (show _ = some (.slice A n c) from by rw [Nat.zero_add]; exact J7.out.get hci)) rfl ?_
        refine wl_y (y_len_slice rfl Try.underlying22) rfl ?_
        refine wl_y (y_lss rfl rfl) rfl ?_
        refine wl_nil ?_
        refine wq_then_norm (hK22 ?_)
        refine wc_dec rfl (fun hc6 => ?_) (fun hc6 => ?_)
        · skip
          refine wc_skip ?_
          refine wq_then_norm (hK21 ?_)
          refine wc_seq ?_; intro K23 hK23
          refine wc_block ?_
          refine wc_draw (by kernel_rfl) 15 rfl ?_; intro wd18 ex hd18
          replace F := F.ext ex
          replace J2 := J2.ext ex
          replace J5 := J5.ext ex
          replace J6 := J6.ext ex
          replace J7 := J7.ext ex
          replace JA := JA.ext ex
          replace JW := JW.ext ex
          replace WR := WR.ext ex
          have hlt : k < n := by omega
          have hw := WR.1 i hlt7
          rw [← hq] at hw
          obtain ⟨g, v, hA, hgS, hc, ⟨x, rfl⟩, hf⟩ := hw k hlt
          replace hA : A = some ⟨g, 0, none⟩ := hA
          subst hA
          refine wm_z 0 rfl (by kernel_rfl) (fun _ => y_move rfl) rfl ?_
          refine wm_z 1 rfl (by kernel_rfl) (fun _ => y_move rfl) rfl ?_
          refine wm_z 2 rfl (by kernel_rfl) (fun _ => y_ixs1 rfl rfl Try.underlying57 (by kernel_rfl) rfl (by omega)) rfl ?_
          refine wm_y 3 rfl (by kernel_rfl) (y_load1 rfl Try.underlying22 rfl (show _ = some (.slice (some ⟨g, 0, none⟩) n c) from by rw [Nat.zero_add]; exact J7.out.get hci)) rfl ?_
          refine wm_z 4 rfl (by kernel_rfl) (fun _ => y_move rfl) rfl ?_
          refine wm_z 5 rfl (by kernel_rfl) (fun _ => y_move rfl) rfl ?_
          refine wm_z 6 rfl (by kernel_rfl) (fun _ => y_move rfl) rfl ?_
          refine wm_z 7 rfl (by kernel_rfl) (fun _ => y_ixs1 rfl rfl Try.underlying57 (by kernel_rfl) rfl (by omega)) rfl ?_
          refine wm_y 8 rfl (by kernel_rfl) (y_load1 rfl Try.underlying22 rfl (show _ = some (.slice (some ⟨g, 0, none⟩) n c) from by rw [Nat.zero_add]; exact J7.out.get hci)) rfl ?_
          refine wm_z 9 rfl (by kernel_rfl) (fun _ => y_move rfl) rfl ?_
          refine wm_z 10 rfl (by kernel_rfl) (fun _ => y_ixs1 rfl rfl Try.underlying22 (by kernel_rfl) rfl (by omega)) rfl ?_
          refine wm_y 11 rfl (by kernel_rfl) (y_load1 rfl Try.underlying5 rfl hc) rfl ?_
          refine wm_z 12 rfl (by kernel_rfl) (fun _ => y_xor rfl rfl (bits_u8 (q := 255) (UInt8.toNat_lt x) (by omega)).2.2) rfl ?_
          refine wm_z 13 rfl (by kernel_rfl) (fun _ => y_ixs1 rfl rfl Try.underlying22 (by kernel_rfl) rfl (by omega)) rfl ?_
          refine wm_one 14 (by kernel_rfl) ?_; refine om_ef rfl (ef_store1 rfl rfl rfl (by kernel_rfl) hc hf) rfl ?_
          rintro _ w11 ⟨rfl, hw11⟩
          refine ⟨.inl rfl, ?_⟩
          subst hw11; have cs := Chs.one (chg_setCell wd18 g (0 + k) (.int .u8 ((x.toNat ^^^ 255 : Nat) : Int))); replace F := F.chs cs; replace J2 := J2.chs cs; replace J5 := J5.chs cs; replace J6 := J6.chs cs; replace J7 := J7.chs cs; replace JA := JA.chs cs; replace JW := JW.chs cs; replace WR := WR.set (v := .int .u8 ((x.toNat ^^^ 255 : Nat) : Int)) hc (fun _ => isB_not) (fun ⟨z, hz⟩ => by cases hz)
          refine wm_done (by kernel_rfl) ?_
          refine wq_nop ?_
          refine wq_blk_norm ?_
          refine wq_then_norm (hK23 ?_)
          refine wc_region ?_
          refine wl_y (y_move rfl) rfl ?_
          refine wl_y (y_add rfl rfl (i64_ok (by omega) (by omega))) rfl ?_
          refine wl_y (y_assign rfl) rfl ?_
          refine wl_nil ?_
          refine wq_then_norm ?_
          refine hL2 _ _ ⟨k + 1, rfl, rfl, by omega, F, J2, J5, J6, J7, JA, JW, WR⟩ (by omega) ⟨rfl, rfl, rfl, rfl, (by first | rfl | exact congrArg some (int_val (by omega))), (by first | rfl | exact congrArg some (int_val (by omega))), trivial⟩
        · skip
          refine wc_exit ?_
          refine wq_then_exit ?_
          refine wq_then_exit ?_
          refine wq_blk_hit ?_
          refine wq_blk_norm ?_
          refine wq_then_norm (hK19 ?_)
          refine wc_region ?_
          refine wl_y (y_move rfl) rfl ?_
          refine wl_y (y_add rfl rfl (i64_ok (by omega) (by omega))) rfl ?_
          refine wl_y (y_assign rfl) rfl ?_
          refine wl_nil ?_
          refine wq_then_norm ?_
          refine hL1 _ _ ⟨i + 1, rfl, rfl, by omega, F, J2, J5, J6, J7, JA, JW, WR⟩ (by omega) ⟨rfl, rfl, rfl, rfl, (by first | rfl | exact congrArg some (int_val (by omega))), trivial⟩
      · skip
        refine wc_exit ?_
        refine wq_then_exit ?_
        refine wq_then_exit ?_
        refine wq_blk_hit ?_
        refine wq_then_norm (hK15 ?_)
        refine wc_seq ?_; intro K24 hK24
        refine wc_seq ?_; intro K25 hK25
        have B5 := J5.out
        refine wc_region ?_
        refine wl_y (y_assign rfl) rfl ?_
        refine wl_nil ?_
        refine wq_then_norm (hK25 ?_)
        refine wc_block ?_
        refine wc_loop (fun n' L wt => ∃ (k : Nat), L = [(2, .pointer (some ⟨gB2, 0, none⟩)), (5, .pointer (some ⟨gB5, 0, none⟩)), (6, .pointer (some ⟨gB6, 0, none⟩)), (10, .int .i64 (k : Int))] ∧ n' = zn - k ∧ (k ≤ zn ∧ Chs S w10 wt ∧ Kp w10.heap.size S (fun w => Blk w gB2 30 (nodeV a.kind h0 h1 h2 a.leaf.src h4 h5 p0 p1 p2)) wt ∧ Kp w10.heap.size S (fun w => Blk w gB5 30 (nodeV a.kind i0 i1 i2 a.leaf.src i4 i5 o0 o1 ⟨Z, zn, zc⟩)) wt ∧ Kp w10.heap.size S (fun w => Blk w gB6 30 (nodeV a.kind t0 t1 t2 a.leaf.src t4 t5 y0 y1 y2)) wt ∧ Kp w10.heap.size S (fun w => NodeAt w (nodeV a.kind h0 h1 h2 a.leaf.src h4 h5 p0 p1 p2) a) wt ∧ Kp w10.heap.size S (fun w => NodeAt w (nodeV a.kind t0 t1 t2 a.leaf.src t4 t5 y0 y1 y2) a) wt ∧ Wr S wt hd ⟨Z, zn, zc⟩)) _ _ ⟨0, rfl, rfl, by omega, F, J2, J5, J6, JA, JW, WR⟩ ⟨rfl, rfl, rfl, (by first | rfl | exact congrArg some (int_val (by omega))), trivial⟩ ?_
        rintro KL3 n' L wt ⟨k, rfl, rfl, hk, F, J2, J5, J6, JA, JW, WR⟩ hL3
        refine wc_seq ?_; intro K26 hK26
        refine wc_seq ?_; intro K27 hK27
        have B5 := J5.out
        refine wc_region ?_
        refine wl_y (y_move rfl) rfl ?_
        refine wl_y (y_fieldAddr (o := 7) (s := 3) (off := 0) (o' := 7) rfl Try.underlying30 rfl (by kernel_rfl) rfl rfl) rfl ?_
        refine wl_y (y_fieldAddr (o := 2) (s := 1) (off := 7) (o' := 9) rfl Try.underlying28 rfl (by kernel_rfl) rfl rfl) rfl ?_
        refine wl_y (y_load1 rfl Try.underlying26 rfl (B5.get (i := 9) rfl)) rfl ?_
        refine wl_y (y_len_slice rfl Try.underlying26) rfl ?_
        refine wl_y (y_lss rfl rfl) rfl ?_
        refine wl_nil ?_
        refine wq_then_norm (hK27 ?_)
        refine wc_dec rfl (fun hc7 => ?_) (fun hc7 => ?_)
        · skip
          refine wc_skip ?_
          refine wq_then_norm (hK26 ?_)
          refine wc_seq ?_; intro K28 hK28
          refine wc_block ?_
          have hlt : k < zn := by have hzz : (⟨Z, zn, zc⟩ : Hd).n = zn := rfl; omega
          obtain ⟨g, v, hA, hgS, hc, ⟨x, rfl⟩, hf⟩ := WR.2 k hlt
          replace hA : Z = some ⟨g, 0, none⟩ := hA
          subst hA
          refine wc_region ?_
          refine wl_y (y_fieldAddr (o := 7) (s := 3) (off := 0) (o' := 7) rfl Try.underlying30 rfl (by kernel_rfl) rfl rfl) rfl ?_
          refine wl_y (y_fieldAddr (o := 2) (s := 1) (off := 7) (o' := 9) rfl Try.underlying28 rfl (by kernel_rfl) rfl rfl) rfl ?_
          refine wl_y (y_load1 rfl Try.underlying26 rfl (B5.get (i := 9) rfl)) rfl ?_
          refine wl_y (y_move rfl) rfl ?_
          refine wl_y (y_ixs1 rfl rfl Try.underlying26 (by kernel_rfl) rfl (by omega)) rfl ?_
          refine wl_ef (ef_store1 rfl rfl rfl (by kernel_rfl) hc hf) rfl ?_
          rintro _ w12 ⟨rfl, hw12⟩
          subst hw12; have cs := Chs.one (chg_setCell wt g (0 + k) (.int .i64 (-5))); replace F := F.chs cs; replace J2 := J2.chs cs; replace J5 := J5.chs cs; replace J6 := J6.chs cs; replace JA := JA.chs cs; replace JW := JW.chs cs; replace WR := WR.set (v := .int .i64 (-5)) hc (fun ⟨z, hz⟩ => by cases hz) (fun _ => ⟨-5, rfl⟩)
          refine wl_nil ?_
          refine wq_blk_norm ?_
          refine wq_then_norm (hK28 ?_)
          refine wc_region ?_
          refine wl_y (y_move rfl) rfl ?_
          refine wl_y (y_add rfl rfl (i64_ok (by omega) (by omega))) rfl ?_
          refine wl_y (y_assign rfl) rfl ?_
          refine wl_nil ?_
          refine wq_then_norm ?_
          refine hL3 _ _ ⟨k + 1, rfl, rfl, by omega, F, J2, J5, J6, JA, JW, WR⟩ (by omega) ⟨rfl, rfl, rfl, (by first | rfl | exact congrArg some (int_val (by omega))), trivial⟩
        · skip
          refine wc_exit ?_
          refine wq_then_exit ?_
          refine wq_then_exit ?_
          refine wq_blk_hit ?_
          refine wq_then_norm (hK24 ?_)
          refine wc_seq ?_; intro K29 hK29
          have B2 := J2.out; have B6 := J6.out
          refine wc_region ?_
          refine wl_y (y_loadx (o := 0) (s := 10) rfl Try.underlying30 rfl (by kernel_rfl) B2 rfl) rfl ?_
          refine wl_y (y_loadx (o := 0) (s := 10) rfl Try.underlying30 rfl (by kernel_rfl) B6 rfl) rfl ?_
          refine wl_call Try.func14 rfl rfl rfl (rsame16_any _ JA.out JW.out fa fa) rfl ?_
          rintro e w13 ⟨rfl, ex⟩
          refine ⟨_, rfl, ?_⟩
          replace F := F.ext ex
          replace J2 := J2.ext ex
          replace J5 := J5.ext ex
          replace J6 := J6.ext ex
          replace JA := JA.ext ex
          replace JW := JW.ext ex
          replace WR := WR.ext ex
          rw [decide_eq_true rfl]
          refine wl_y (y_assign rfl) rfl ?_
          refine wl_nil ?_
          refine wq_then_norm (hK29 ?_)
          refine wc_ret ?_
          refine hret rfl ?_
          exact ⟨rfl, E7.chsN F fun g hg => by have := (hS g hg).1; omega⟩
end Go.Proofs.Ytopimmomkapdoaa
