/- What the message layer's reader takes: contexts and messages; bytes as a whole. No conditions: contracts of the program's functions. -/
import Derived.Test.YtpgalbgonmclaaaGreatMsY
namespace Go.Proofs.YtpgalbgonmclaaaGreat
open Go.RowKit
attribute [local irreducible] Y Ef WL WC WK WQ WM OpM WN WF OpN WJ OpJ
open Wire Nd M20
section
variable {N gi gr : Nat} {S : List Nat} {s : St}
def zComV : Array Value := comV nilH false nilH nilH nilH 0 nilH nilH nilH
theorem ComF.zero (base : Nat) (w : World) : ComF base w zComV Com20.zero := ⟨_, _, _, _, _, _, _, _, rfl, ElsF.nil _ _ _ _ _, ⟨_, _, _, _, _, _, _, rfl, LeafF.zero _ _, ElsF.nil _ _ _ _ _⟩⟩
end
theorem endX_lt {N g : Nat} {S : List Nat} {w : World} {t : St} (h : Rs N S w g t) : endX t < 256 := by
  cases t with
  | error c => exact h.2.1
  | ok xs =>
    cases xs with
    | nil => show 0 < 256; omega
    | cons x xs => show 5 < 256; omega
theorem note_end {t t' : St} (h : (∃ xs, t = .ok xs ∧ t' = t) ∨ (ecode t ≠ 0 ∧ t = .error (ecode t))) : ecode (noteX (endX t') t) = endX t := by
  rcases h with ⟨xs, rfl, rfl⟩ | ⟨h0, h1⟩
  · cases xs with
    | nil => rfl
    | cons x xs => rfl
  · generalize ecode t = c at *
    subst h1; rfl
theorem read_any {A : Option Addr} {n c N : Nat} {b : List UInt8} {V : List Nat} {t : St} {okv : Bool} {ft fo : FuncId} {us vs : List Value} {fn1 fn2 : Func} {bd1 bd2 : Code} {Ψ : Nat → World → Prop} (w : World) (K : Kp N V (fun w => Bs w A n b) w) (hc : n ≤ c) (hn : n ≤ 1048576) (hV : ∀ k ∈ V, k < w.heap.size)
    (hf1 : Tryz.prog.funcs[ft]? = some fn1) (hb1 : fn1.body = some bd1) (hm1 : (fn1.name == "runtime.NumGoroutine") = false) (hf2 : Tryz.prog.funcs[fo]? = some fn2) (hb2 : fn2.body = some bd2) (hm2 : (fn2.name == "runtime.NumGoroutine") = false)
    (hT : ∀ (w1 : World) (gi gr : Nat), Ext w w1 → w.heap.size ≤ gi → w.heap.size ≤ gr → In N (gi :: gr :: V) w1 gi gr (.ok b) → (∀ k ∈ gi :: gr :: V, k < w1.heap.size) →
      Calls Tryz.prog ft (.pointer (some ⟨gi, 0, none⟩) :: us).toArray w1 fun e w2 => e = .returned (.tuple #[]) ∧ In N (gi :: gr :: V) w2 gi gr t ∧ Ψ gi w2 ∧ Lat w.heap.size V w1 w2)
    (hΨ : ∀ gi w1 w2, w.heap.size ≤ gi → Ψ gi w1 → Chs [gi] w1 w2 → Ψ gi w2)
    (hO : ∀ gi w1, Ψ gi w1 → endX t = 0 → Calls Tryz.prog fo vs.toArray w1 fun e w2 => e = .returned (.bool okv) ∧ Ext w1 w2) :
    Calls Tryz.prog 29 #[.slice A n c, .func (.func ft) #[] us.toArray, .func (.func fo) #[] vs.toArray] w fun e w' => e = .returned (.int .u8 (((if endX t ≠ 0 then endX t else if okv then 0 else 3 : Nat) : Nat) : Int)) ∧ (∃ gi, w.heap.size ≤ gi ∧ Ψ gi w') ∧ endX t < 256 ∧ Chs V w w' := by
  have E := Ext.refl w
  have hbl := K.out.1
  refine vc_enter1 42 Tryz.func29 rfl rfl rfl rfl ?_
  intro Q hret
  refine wc_seq ?_; intro K1 hK1
  refine wc_region ?_
  refine wl_y (y_assign rfl) rfl ?_
  refine wl_nil ?_
  refine wq_then_norm (hK1 ?_)
  refine wc_seq ?_; intro K2 hK2
  refine wc_seq ?_; intro K3 hK3
  refine wc_region ?_
  refine wl_y (y_move rfl) rfl ?_
  refine wl_y (y_len_slice rfl Tryz.underlying22) rfl ?_
  refine wl_y (y_gtr rfl rfl) rfl ?_
  refine wl_nil ?_
  refine wq_then_norm (hK3 ?_)
  refine wc_no rfl (by omega) ?_
  refine wc_skip ?_
  refine wq_then_norm (hK2 ?_)
  refine wc_seq ?_; intro K4 hK4
  refine wc_region ?_
  refine wl_y (y_move rfl) rfl ?_
  refine wl_call Tryz.func78 rfl rfl rfl (newReader_any A n c b _ hc K) rfl ?_
  rintro e w1 ⟨gr, rfl, hgr, R, ex⟩
  refine ⟨_, rfl, ?_⟩
  replace E := E.ext ex
  skip
  have hlr := R.lt; have z1 := E.size
  refine wl_y (y_build rfl (cells := inV gr 0) (by kernel_rfl)) rfl ?_
  have R0 := R
  refine wl_ef (ef_box rfl rfl) rfl ?_
  rintro _ w2 ⟨gi, rfl, BI, hgi, ex⟩
  replace E := E.ext ex
  replace R := R.ext ex
  replace R0 := R0.grow ex hgi
  refine wl_y (y_assign rfl) rfl ?_
  refine wl_nil ?_
  refine wq_then_norm (hK4 ?_)
  refine wc_seq ?_; intro K5 hK5
  refine wc_region ?_
  refine wl_y (y_move rfl) rfl ?_
  refine wl_y (y_move rfl) rfl ?_
  have H : In N (gi :: gr :: V) w2 gi gr (.ok b) := ⟨BI, List.mem_cons_self, by omega, R0⟩
  have z2 := BI.lt
  have z3 := E.size
  have z4 := H.ltr
  refine wl_ef (ef_callv (Φ := fun v w' => v = .tuple #[] ∧ In N (gi :: gr :: V) w' gi gr t ∧ Ψ gi w' ∧ Lat w.heap.size V w2 w') (xs := [.tmp 16]) (vs := [.pointer (some ⟨gi, 0, none⟩)]) rfl hf1 hb1 hm1 rfl (hT w2 gi gr E (by omega) (by omega) H (mem2 z2 z4 fun k hk => Nat.lt_of_lt_of_le (hV k hk) z3)) (fun _ _ ⟨h1, h2, h3, h4⟩ => ⟨_, h1, rfl, h2, h3, h4⟩)) rfl ?_
  rintro _ w3 ⟨rfl, H3, P3, L3⟩
  have F := (Chs.of E V).lats L3 (Nat.le_refl _) (fun k hk => hk)
  refine wl_nil ?_
  refine wq_then_norm (hK5 ?_)
  refine wc_seq ?_; intro K6 hK6
  refine wc_region ?_
  refine wl_y (y_move rfl) rfl ?_
  refine wl_y (y_move rfl) rfl ?_
  refine wl_y (y_nilp rfl) rfl ?_
  refine wl_y (y_fieldAddr (o := 0) (s := 1) (off := 0) (o' := 0) rfl Tryz.underlying128 rfl (by kernel_rfl) rfl rfl) rfl ?_
  refine wl_y (y_load1 rfl Tryz.underlying125 rfl (H3.blk.get (i := 0) rfl)) rfl ?_
  obtain ⟨t', I3, h8, hcs⟩ := H3.cases
  have he8 := endX_lt I3.2.2.2
  have hne := note_end hcs
  have het : endX t < 256 := by rcases hcs with ⟨xs, rfl, rfl⟩ | ⟨h, e⟩; exact he8; rw [e]; exact h8
  refine wl_call Tryz.func80 rfl rfl rfl (rEnd_any _ I3.2.2.2) rfl ?_
  rintro e w4 ⟨rfl, ex⟩
  refine ⟨_, rfl, ?_⟩
  replace F := F.ext ex
  replace H3 := H3.ext ex
  replace P3 := hΨ gi _ _ (by omega) P3 (Chs.of ex [gi])
  refine wl_call Tryz.func79 rfl rfl rfl (note_in (endX t') _ rfl he8 _ H3) rfl ?_
  rintro e w5 ⟨rfl, H5, ex⟩
  refine ⟨_, rfl, ?_⟩
  have z6 := F.size; replace P3 := hΨ gi _ _ (by omega) P3 ex; replace F := F.lats (Chs.lat (M := w.heap.size) (V := []) ex (by omega)) (Nat.le_refl _) (by simp)
  obtain ⟨q, hq⟩ : ∃ q, q = noteX (endX t') t := ⟨_, rfl⟩; rw [← hq] at H5 hne; have BQ := H5.blk
  refine wl_nil ?_
  refine wq_then_norm (hK6 ?_)
  refine wc_seq ?_; intro K7 hK7
  refine wc_seq ?_; intro K8 hK8
  refine wc_region ?_
  refine wl_y (y_move rfl) rfl ?_
  refine wl_y (y_nilp rfl) rfl ?_
  refine wl_y (y_fieldAddr (o := 1) (s := 1) (off := 0) (o' := 1) rfl Tryz.underlying128 rfl (by kernel_rfl) rfl rfl) rfl ?_
  refine wl_y (y_load1 rfl Tryz.underlying28 rfl (BQ.get (i := 1) rfl)) rfl ?_
  refine wl_yask (y_eql rfl rfl) rfl (fun h0 => ?_) (fun h0 => ?_)
  · skip
    refine wl_y (y_move rfl) rfl ?_
    refine wl_gy 30 rfl rfl (y_move rfl) rfl ?_
    refine wl_gef 30 rfl rfl (ef_callv (Φ := fun v w' => v = .bool okv ∧ Ext w5 w') (xs := []) (vs := []) rfl hf2 hb2 hm2 rfl (hO gi _ P3 (by omega)) (fun _ _ ⟨h1, h2⟩ => ⟨_, h1, rfl, h2⟩)) rfl ?_
    rintro _ w6 ⟨rfl, ex⟩
    replace F := F.ext ex
    replace BQ := BQ.ext ex
    replace P3 := hΨ gi _ _ (by omega) P3 (Chs.of ex [gi])
    refine wl_gy 30 rfl rfl (y_not rfl) rfl ?_
    refine wl_y (y_pickt rfl rfl) rfl ?_
    refine wl_nil ?_
    refine wq_then_norm (hK8 ?_)
    refine wc_cond rfl (fun hc2 => ?_) (fun hc2 => ?_)
    · skip
      refine wc_region ?_
      refine wl_y (y_move rfl) rfl ?_
      refine wl_y (y_nilp rfl) rfl ?_
      refine wl_y (y_fieldAddr (o := 1) (s := 1) (off := 0) (o' := 1) rfl Tryz.underlying128 rfl (by kernel_rfl) rfl rfl) rfl ?_
      refine wl_ef (ef_storeB rfl rfl rfl (by kernel_rfl) BQ (by show 1 < 2; omega)) rfl ?_
      rintro _ w7 ⟨rfl, D, cg⟩
      have ex := Chs.one cg
      have z7 := F.size; replace P3 := hΨ gi _ _ (by omega) P3 ex; replace F := F.lats (Chs.lat (M := w.heap.size) (V := []) ex (by omega)) (Nat.le_refl _) (by simp)
      refine wl_nil ?_
      refine wq_then_norm (hK7 ?_)
      refine wc_seq ?_; intro K9 hK9
      refine wc_region ?_
      refine wl_y (y_move rfl) rfl ?_
      refine wl_y (y_nilp rfl) rfl ?_
      refine wl_y (y_fieldAddr (o := 1) (s := 1) (off := 0) (o' := 1) rfl Tryz.underlying128 rfl (by kernel_rfl) rfl rfl) rfl ?_
      refine wl_y (y_load1 rfl Tryz.underlying28 rfl (D.get (i := 1) rfl)) rfl ?_
      refine wl_y (y_assign rfl) rfl ?_
      refine wl_nil ?_
      refine wq_then_norm (hK9 ?_)
      refine wc_ret ?_
      refine hret rfl ?_
      rw [if_neg (by omega), if_neg (by simpa using hc2)]
      exact ⟨rfl, ⟨gi, by omega, P3⟩, het, F⟩
    · skip
      refine wc_skip ?_
      refine wq_then_norm (hK7 ?_)
      refine wc_seq ?_; intro K10 hK10
      refine wc_region ?_
      refine wl_y (y_move rfl) rfl ?_
      refine wl_y (y_nilp rfl) rfl ?_
      refine wl_y (y_fieldAddr (o := 1) (s := 1) (off := 0) (o' := 1) rfl Tryz.underlying128 rfl (by kernel_rfl) rfl rfl) rfl ?_
      refine wl_y (y_load1 rfl Tryz.underlying28 rfl (BQ.get (i := 1) rfl)) rfl ?_
      refine wl_y (y_assign rfl) rfl ?_
      refine wl_nil ?_
      refine wq_then_norm (hK10 ?_)
      refine wc_ret ?_
      refine hret rfl ?_
      rw [if_neg (by omega), if_pos (by simpa using hc2), show ecode q = 0 by omega]
      exact ⟨rfl, ⟨gi, by omega, P3⟩, het, F⟩
  · skip
    refine wl_y (y_move rfl) rfl ?_
    refine wl_gno 30 rfl rfl rfl rfl ?_
    refine wl_gno 30 rfl rfl rfl rfl ?_
    refine wl_gno 30 rfl rfl rfl rfl ?_
    refine wl_y (y_pickf rfl rfl) rfl ?_
    refine wl_nil ?_
    refine wq_then_norm (hK8 ?_)
    refine wc_false rfl rfl ?_
    refine wc_skip ?_
    refine wq_then_norm (hK7 ?_)
    refine wc_seq ?_; intro K11 hK11
    refine wc_region ?_
    refine wl_y (y_move rfl) rfl ?_
    refine wl_y (y_nilp rfl) rfl ?_
    refine wl_y (y_fieldAddr (o := 1) (s := 1) (off := 0) (o' := 1) rfl Tryz.underlying128 rfl (by kernel_rfl) rfl rfl) rfl ?_
    refine wl_y (y_load1 rfl Tryz.underlying28 rfl (BQ.get (i := 1) rfl)) rfl ?_
    refine wl_y (y_assign rfl) rfl ?_
    refine wl_nil ?_
    refine wq_then_norm (hK11 ?_)
    refine wc_ret ?_
    refine hret rfl ?_
    rw [if_pos (by omega), hne]
    exact ⟨rfl, ⟨gi, by omega, P3⟩, het, F⟩
end Go.Proofs.YtpgalbgonmclaaaGreat
