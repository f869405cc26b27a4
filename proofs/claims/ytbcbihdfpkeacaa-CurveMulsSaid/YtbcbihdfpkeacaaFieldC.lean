/- The field's Same and Zero. -/
import Derived.Test.YtbcbihdfpkeacaaFieldB
import Derived.ChangeKeysEq
namespace Go.Proofs.Ytbcbihdfpkeacaa
open Go.RowKit Go.ChangeMaps
theorem beq_nat (a b : Nat) : ((a : Int) == (b : Int)) = decide (a = b) := by
  by_cases h : a = b
  · subst h; simp
  · rw [decide_eq_false h]; simp; omega
theorem part_u64 (f : Nat → Nat) {j : Nat} (hj : j < 5) (w : World) : (part 23 (fe f) j).run Try.prog w = .ok (.int .u64 ((f j : Nat) : Int)) w := by
  have h : (fe f)[j]? = some (.int .u64 ((f j : Nat) : Int)) := fe_get f rfl hj
  simp [part, isAgg_no Try.underlying23 rfl w, h]
theorem run_eqE (f g : Nat → Nat) (w : World) : (binOp .eql 27 (.agg (fe f)) (.agg (fe g))).run Try.prog w = .ok (.bool (decide (f 0 = g 0 ∧ f 1 = g 1 ∧ f 2 = g 2 ∧ f 3 = g 3 ∧ f 4 = g 4))) w := by
  rw [run_eql_struct]
  rw [run_equalIn_struct w 9999 _ _ _ (by simp [Program.fieldsOf, Try.underlying27]) (by kernel_rfl)]
  have hfs : (Try.prog.fieldsOf 27).toList = [{ name := "l", type := 25, offset := 0, embedded := false, tag := "", pkgPath := "ratline/field", byteOffset := 0 }] := by simp [Program.fieldsOf, Try.underlying27]
  rw [hfs]
  have hp : ∀ h : Nat → Nat, (part 25 (fe h) 0).run Try.prog w = .ok (.agg (fe h)) w := fun h => by
    have hs : (sizeOf 25).run Try.prog w = .ok 5 w := size_of_info (by kernel_rfl) w
    simp [part, isAgg_yes Try.underlying25 rfl w, hs]
    exact .inr (by rw [fe_size]; omega)
  simp only [Op.eqFields]
  rw [if_pos (show "l" ≠ "_" by decide)]
  simp only [Sem.run_bind, hp, Result.andThen_ok]
  obtain ⟨i, hi⟩ : ∃ i, Try.prog.info? 23 = some i := Option.isSome_iff_exists.1 (by kernel_rfl)
  have hc : Try.prog.cellsOf 23 = 1 := by kernel_rfl
  rw [run_equalIn_array w 9998 (fe f) (fe g) Try.underlying25 hi, hc, show List.range 5 = [0, 1, 2, 3, 4] from rfl]
  have he : ∀ a b : Nat, (Op.equalIn 9998 23 (.int .u64 (a : Int)) (.int .u64 (b : Int))).run Try.prog w = .ok (decide (a = b)) w := fun a b => by
    rw [run_equalIn_int w 9997 _ .u64 .u64 _ _ Try.underlying23]
    rw [beq_nat]
  have P : ∀ h : Nat → Nat, ∀ j, j < 5 → (part 23 (fe h) j).run Try.prog w = .ok (.int .u64 ((h j : Nat) : Int)) w := fun h j hj => part_u64 h hj w
  simp only [Op.eqItems, Nat.mul_one, Sem.run_bind, P f 0 (by omega), P f 1 (by omega), P f 2 (by omega), P f 3 (by omega), P f 4 (by omega), P g 0 (by omega), P g 1 (by omega), P g 2 (by omega), P g 3 (by omega), P g 4 (by omega), he, Result.andThen_ok, Sem.run_ite, Sem.run_pure]
  by_cases h0 : f 0 = g 0 <;> by_cases h1 : f 1 = g 1 <;> by_cases h2 : f 2 = g 2 <;> by_cases h3 : f 3 = g 3 <;> by_cases h4 : f 4 = g 4 <;> simp [h0, h1, h2, h3, h4]
theorem y_eqE {f g : Nat → Nat} {L : List (Nat × Value)} {w : World} {x y : Operand} {ty t' : TypeId} (hx : ev L x = some (.agg (fe f))) (hy : ev L y = some (.agg (fe g))) :
    Y Try.prog L w (.binOp .eql 27 x y t') ty (.bool (decide (f 0 = g 0 ∧ f 1 = g 1 ∧ f 2 = g 2 ∧ f 3 = g 3 ∧ f 4 = g 4))) := fun ρ hρ w' _ _ _ _ _ => by
  have hg := run_eqGuard_agg (P := Try.prog) w' .eql 27 x y (fe f) (fe g) (by kernel_rfl)
  simp [execOp, hρ _ _ hx, hρ _ _ hy, hg, run_eqE f g w']
attribute [local irreducible] Y Ef WL WC WK WQ WM OpM
theorem limb_inj {a b : Nat} (ha : a < Fp.p) (hb : b < Fp.p) : (Fp.limb a 0 = Fp.limb b 0 ∧ Fp.limb a 1 = Fp.limb b 1 ∧ Fp.limb a 2 = Fp.limb b 2 ∧ Fp.limb a 3 = Fp.limb b 3 ∧ Fp.limb a 4 = Fp.limb b 4) ↔ a = b := by
  constructor
  · rintro ⟨h0, h1, h2, h3, h4⟩
    have e : Fp.val (Fp.limb a) = Fp.val (Fp.limb b) := by unfold Fp.val; rw [h0, h1, h2, h3, h4]
    unfold Fp.p at ha hb
    rwa [Fp.limb_val a (by omega), Fp.limb_val b (by omega)] at e
  · rintro rfl; exact ⟨rfl, rfl, rfl, rfl, rfl⟩
theorem fsame_any {cs ds : Array Value} {a b : Nat} (ha : Fe cs a) (hb : Fe ds b) (w : World) :
    Calls Try.prog 33 #[.agg cs, .agg ds] w fun e w' => e = .returned (.bool (decide (a = b))) ∧ Ext w w' := by
  have hal := ha.lt; have hbl := hb.lt
  obtain ⟨f, rfl, hf, hfa⟩ := ha
  obtain ⟨g, rfl, hg, hgb⟩ := hb
  refine vc_enter1 10 Try.func33 rfl rfl rfl rfl ?_
  intro Q hret
  refine wc_seq ?_; intro K1 hK1
  refine wc_region ?_
  refine wl_ef (ef_box (cs := fe f) rfl rfl) rfl ?_
  rintro _ w1 ⟨g1, rfl, B1, hg1, ex⟩
  have E1 := ex
  refine wl_ef (ef_box (cs := fe g) rfl rfl) rfl ?_
  rintro _ w2 ⟨g2, rfl, B2, hg2, ex⟩
  have E := E1.ext ex; replace B1 := B1.ext ex
  refine wl_y (y_assign rfl) rfl ?_
  refine wl_nil ?_
  refine wq_then_norm (hK1 ?_)
  refine wc_seq ?_; intro K2 hK2
  refine wc_draw (by kernel_rfl) 6 rfl ?_; intro wd1 ex hd1
  replace E := E.ext ex
  replace B1 := B1.ext ex
  replace B2 := B2.ext ex
  refine wm_y 0 rfl (by kernel_rfl) (y_loadw rfl Try.underlying27 rfl (by kernel_rfl) B1) rfl ?_
  refine wm_y 2 rfl (by kernel_rfl) (y_loadw rfl Try.underlying27 rfl (by kernel_rfl) B2) rfl ?_
  refine wm_one 1 (by kernel_rfl) ?_; refine om_call rfl Try.func105 rfl rfl rfl (least_any f _ hf) rfl ?_
  rintro e w3 ⟨rfl, ex⟩
  refine ⟨_, rfl, .inr ex, ?_⟩
  replace E := E.ext ex
  replace B1 := B1.ext ex
  replace B2 := B2.ext ex
  rw [hfa]
  refine wm_one 3 (by kernel_rfl) ?_; refine om_call rfl Try.func105 rfl rfl rfl (least_any g _ hg) rfl ?_
  rintro e w4 ⟨rfl, ex⟩
  refine ⟨_, rfl, .inr ex, ?_⟩
  replace E := E.ext ex
  replace B1 := B1.ext ex
  replace B2 := B2.ext ex
  rw [hgb]
  refine wm_y 4 rfl (by kernel_rfl) ((y_eqE rfl rfl)) rfl ?_
  refine wm_y 5 rfl (by kernel_rfl) (y_assign rfl) rfl ?_
  refine wm_done (by kernel_rfl) ?_
  refine wq_nop ?_
  refine wq_then_norm (hK2 ?_)
  refine wc_ret ?_
  refine hret rfl ?_
  exact ⟨ret_bool (limb_inj hal hbl), E⟩
theorem fzero_any {cs : Array Value} {a : Nat} (ha : Fe cs a) (w : World) :
    Calls Try.prog 35 #[.agg cs] w fun e w' => e = .returned (.bool (decide (a = 0))) ∧ Ext w w' := by
  have hsz := ha.size
  refine vc_enter1 6 Try.func35 rfl rfl rfl rfl ?_
  intro Q hret
  refine wc_seq ?_; intro K1 hK1
  refine wc_region ?_
  refine wl_ef (ef_box (cs := cs) rfl rfl) rfl ?_
  rintro _ w1 ⟨g1, rfl, B1, hg1, ex⟩
  have E1 := ex
  refine wl_y (y_assign rfl) rfl ?_
  refine wl_nil ?_
  refine wq_then_norm (hK1 ?_)
  refine wc_seq ?_; intro K2 hK2
  refine wc_region ?_
  refine wl_y ((y_loadw rfl Try.underlying27 rfl (by rw [hsz]; kernel_rfl) B1)) rfl ?_
  refine wl_y (y_build rfl (cells := fe (fun _ => 0)) (by kernel_rfl)) rfl ?_
  refine wl_call Try.func33 rfl rfl rfl (fsame_any ha Fe.zero _) rfl ?_
  rintro e w2 ⟨rfl, ex⟩
  refine ⟨_, rfl, ?_⟩
  have E2 := E1.ext ex
  refine wl_y (y_assign rfl) rfl ?_
  refine wl_nil ?_
  refine wq_then_norm (hK2 ?_)
  refine wc_ret ?_
  refine hret rfl ?_
  exact ⟨rfl, E2⟩
end Go.Proofs.Ytbcbihdfpkeacaa
