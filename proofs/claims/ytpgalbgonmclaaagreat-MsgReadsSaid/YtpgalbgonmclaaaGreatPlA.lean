/- The reference's place in bytes: what each of its functions hands back. No conditions: contracts of the reference's functions. -/
import Derived.Test.YtpgalbgonmclaaaGreatMsZ
namespace Go.Proofs.YtpgalbgonmclaaaGreat
section
open Go.RowKit
variable {P : Program} {f : FuncId} {fn : Func} {c : Code} {args : Array Value} {R : Ending → World → Prop} {w : World}
theorem results_tmp_cell {ty : TypeId} {u t : Tmp} (hr : fn.results = #[.tmp t, .cell u ty]) (tmps : Array Value) (w : World) {cs : Array Value} {d : TypeDesc} {g : Nat} {e : TypeId} {v : Value} (hp : tmps.getD u undef = .pointer (some ⟨g, 0, none⟩)) (h1 : tmps.getD t undef = v) (hg : Blk w g e cs)
    (hu : P.underlying ty = some d) (hd : (match d with | .struct _ | .array _ _ => true | _ => false) = true) (hi : (P.info? ty).map (·.size) = some cs.size) : (results fn tmps).run P w = .ok (.tuple #[v, .agg cs]) w := by
  have hp' : tmps[u]?.getD undef = .pointer (some ⟨g, 0, none⟩) := by simpa using hp
  have h1' : tmps[t]?.getD undef = v := by simpa using h1
  simp [results, hr, hp', h1', asAddr, run_loadVar_row w g e ty cs _ d hg hu hd hi]
theorem vc_entertc {ty : TypeId} {s : Nat} {d : TypeDesc} (N : Nat) {u t : Tmp} (hf : P.funcs[f]? = some fn) (hb : fn.body = some c) (hN : fn.ntmps = N) (hr : fn.results = #[.tmp t, .cell u ty]) (hu : P.underlying ty = some d) (hd : (match d with | .struct _ | .array _ _ => true | _ => false) = true) (hs : (P.info? ty).map (·.size) = some s) (hsz : Nat.ble args.size N = true)
    (h : ∀ Q : Exit → Act → World → Prop, (∀ {N : Nat} {L : List (Nat × Value)} {w : World} {g : Nat} {e : TypeId} {cs : Array Value} {v : Value}, look L u = some (.pointer (some ⟨g, 0, none⟩)) → look L t = some v → Blk w g e cs → cs.size = s → R (.returned (.tuple #[v, .agg cs])) w → WQ Q .ret N L w) → WC P Q c N (slots 0 args.toList) w) : Calls P f args w R :=
  vc_enter N hf hb hN hsz fun Q hQ => h Q fun {N L w g e cs v} hv ht hg hsz' hR a ha => hQ (bodyPost_ret (v := .tuple #[v, .agg cs]) (results_tmp_cell hr _ _ (getD_of (ha.has _ _ hv)) (getD_of (ha.has _ _ ht)) hg hu hd (by rw [hsz']; exact hs)) ha.defers hR)
end
section
open Go.RowKit
attribute [local irreducible] Y Ef WL WC WK WQ WM OpM WN WF OpN WJ OpJ
open Wire Nd M20
theorem nb_take_lt (xs : List UInt8) (i : Nat) : nb (xs.take i) < 256 ^ i := by
  have h := nb_lt (xs.take i)
  refine Nat.lt_of_lt_of_le h (Nat.pow_le_pow_right (by omega) ?_)
  rw [List.length_take]; omega
theorem drop_getD (b : List UInt8) (p i : Nat) : (b.drop p).getD i 0 = b.getD (p + i) 0 := by simp [List.getD_eq_getElem?_getD]
theorem itemV_set {kd sz : Int} {n n' : Nat} {h : Hd} {q : Int} (hq : q = (n' : Int)) : (itemV kd sz n h).setIfInBounds 2 (.int .u64 q) = itemV kd sz n' h := by subst hq; rfl
theorem rtakeN_any {A : Option Addr} {n c at_ : Nat} {b : List UInt8} (k : Nat) (z : Int) (hz : z = (k : Int)) (w : World) (HA : Bs w A n b) (hn : n ≤ 1000000) (hat : at_ ≤ n) (hk : k = 1 ∨ k = 2 ∨ k = 4 ∨ k = 8) :
    Calls Tryz.prog 106 #[.slice A n c, .int .i64 (at_ : Int), .agg (itemV 0 z 0 nilH)] w fun e w' => e = .returned (.tuple #[.agg (itemV 0 z (numAt k b at_).1 nilH), .int .i64 (((numAt k b at_).2.1 : Nat) : Int), .int .i64 (((numAt k b at_).2.2 : Nat) : Int)]) ∧ Ext w w' := by
  subst hz
  have F := Chs.refl [] w
  have KA : Kp w.heap.size [] (fun w => Bs w A n b) w := Kp.bs HA (by simp)
  have hbl := HA.1
  have hdl : (b.drop at_).length = n - at_ := by rw [List.length_drop, hbl]
  refine vc_enterctt (s := 5) 186 Tryz.func106 rfl rfl rfl Tryz.underlying147 rfl (by kernel_rfl) rfl ?_
  intro Q hret
  refine wc_seq ?_; intro K1 hK1
  refine wc_region ?_
  refine wl_ef (ef_box rfl rfl) rfl ?_
  rintro _ wB5 ⟨gB5, rfl, B5, hgB5, ex⟩
  have lB5 := B5.lt; have zB5 := ex.size
  replace F := F.ext ex
  replace KA := KA.ext ex
  refine wl_ef (ef_alloc (Z := #[.int .i64 0, .int .i64 0, .int .u64 0, .slice none 0 0, .slice none 0 0]) (by kernel_rfl)) rfl ?_
  rintro _ wB6 ⟨gB6, rfl, B6, hgB6, ex⟩
  have lB6 := B6.lt; have zB6 := ex.size
  replace F := F.grow ex hgB6
  replace KA := KA.grow ex hgB6
  replace B5 := B5.grow ex hgB6
  refine wl_y (y_assign rfl) rfl ?_
  refine wl_y (y_assign rfl) rfl ?_
  refine wl_nil ?_
  refine wq_then_norm (hK1 ?_)
  refine wc_seq ?_; intro K2 hK2
  refine wc_region ?_
  refine wl_y (y_fieldAddr (o := 0) (s := 1) (off := 0) (o' := 0) rfl Tryz.underlying147 rfl (by kernel_rfl) rfl rfl) rfl ?_
  refine wl_y (y_load1 rfl Tryz.underlying3 rfl (B5.get (i := 0) rfl)) rfl ?_
  refine wl_y (y_fieldAddr (o := 1) (s := 1) (off := 0) (o' := 1) rfl Tryz.underlying147 rfl (by kernel_rfl) rfl rfl) rfl ?_
  refine wl_y (y_load1 rfl Tryz.underlying3 rfl (B5.get (i := 1) rfl)) rfl ?_
  refine wl_y (y_build rfl (cells := itemV 0 (k : Int) 0 nilH) (by kernel_rfl)) rfl ?_
  refine wl_ef (ef_alloc (Z := #[.int .i64 0, .int .i64 0, .int .u64 0, .slice none 0 0, .slice none 0 0]) (by kernel_rfl)) rfl ?_
  rintro _ wB9 ⟨gB9, rfl, B9, hgB9, ex⟩
  have lB9 := B9.lt; have zB9 := ex.size
  have nB6_9 : gB6 < gB9 := Nat.lt_of_lt_of_le B6.lt hgB9
  replace F := F.grow ex hgB9
  replace KA := KA.grow ex hgB9
  replace B5 := B5.grow ex hgB9
  replace B6 := B6.grow ex hgB9
  refine wl_ef (ef_storeP (o := 0) rfl rfl (by kernel_rfl) B9 (Nat.le_of_ble_eq_true rfl) (all_ones rfl)) rfl ?_
  rintro _ wS1_6 ⟨rfl, D, cg⟩
  have ex := Chs.one cg
  clear cg
  replace F := F.chs ex
  replace KA := KA.chs ex
  replace B5 := B5.chs ex
  replace B6 := B6.chs ex
  replace B9 := D; clear D
  replace B9 := B9.congr (cs' := itemV 0 (k : Int) 0 nilH) rfl
  refine wl_nil ?_
  refine wq_then_norm (hK2 ?_)
  refine wc_seq ?_; intro K3 hK3
  refine wc_seq ?_; intro K4 hK4
  refine wc_region ?_
  refine wl_y (y_fieldAddr (o := 0) (s := 1) (off := 0) (o' := 0) rfl Tryz.underlying147 rfl (by kernel_rfl) rfl rfl) rfl ?_
  refine wl_y (y_load1 rfl Tryz.underlying3 rfl (B5.get (i := 0) rfl)) rfl ?_
  refine wl_nil ?_
  refine wq_then_norm (hK4 ?_)
  refine wc_block ?_
  refine wc_seq ?_; intro K5 hK5
  refine wc_region ?_
  refine wl_y (Y.as (y_eql rfl rfl) (congrArg Value.bool (decide_eq_true rfl))) rfl ?_
  refine wl_y (y_assign rfl) rfl ?_
  refine wl_nil ?_
  refine wq_then_norm (hK5 ?_)
  refine wc_true rfl rfl ?_
  refine wc_seq ?_; intro K6 hK6
  refine wc_seq ?_; intro K7 hK7
  refine wc_region ?_
  refine wl_y (y_fieldAddr (o := 1) (s := 1) (off := 0) (o' := 1) rfl Tryz.underlying147 rfl (by kernel_rfl) rfl rfl) rfl ?_
  refine wl_y (y_load1 rfl Tryz.underlying3 rfl (B5.get (i := 1) rfl)) rfl ?_
  refine wl_yask (y_neq rfl rfl) rfl (fun k1 => ?_) (fun k1 => ?_)
  · skip
    refine wl_y (y_move rfl) rfl ?_
    refine wl_gy 33 rfl rfl (y_fieldAddr (o := 1) (s := 1) (off := 0) (o' := 1) rfl Tryz.underlying147 rfl (by kernel_rfl) rfl rfl) rfl ?_
    refine wl_gy 33 rfl rfl (y_load1 rfl Tryz.underlying3 rfl (B5.get (i := 1) rfl)) rfl ?_
    refine wl_gyask 33 rfl rfl (y_neq rfl rfl) rfl (fun k2 => ?_) (fun k2 => ?_)
    · skip
      refine wl_y (y_pickt rfl rfl) rfl ?_
      refine wl_y (y_move rfl) rfl ?_
      refine wl_gy 38 rfl rfl (y_fieldAddr (o := 1) (s := 1) (off := 0) (o' := 1) rfl Tryz.underlying147 rfl (by kernel_rfl) rfl rfl) rfl ?_
      refine wl_gy 38 rfl rfl (y_load1 rfl Tryz.underlying3 rfl (B5.get (i := 1) rfl)) rfl ?_
      refine wl_gyask 38 rfl rfl (y_neq rfl rfl) rfl (fun k4 => ?_) (fun k4 => ?_)
      · skip
        refine wl_y (y_pickt rfl rfl) rfl ?_
        refine wl_y (y_move rfl) rfl ?_
        refine wl_gy 43 rfl rfl (y_fieldAddr (o := 1) (s := 1) (off := 0) (o' := 1) rfl Tryz.underlying147 rfl (by kernel_rfl) rfl rfl) rfl ?_
        refine wl_gy 43 rfl rfl (y_load1 rfl Tryz.underlying3 rfl (B5.get (i := 1) rfl)) rfl ?_
        refine wl_gy 43 rfl rfl (Y.as (y_neq rfl rfl) (congrArg Value.bool (decide_eq_false (by omega)))) rfl ?_
        refine wl_y (y_pickt rfl rfl) rfl ?_
        refine wl_nil ?_
        refine wq_then_norm (hK7 ?_)
        refine wc_false rfl rfl ?_
        refine wc_skip ?_
        refine wq_then_norm (hK6 ?_)
        refine wc_seq ?_; intro K8 hK8
        refine wc_seq ?_; intro K9 hK9
        refine wc_region ?_
        refine wl_y (y_fieldAddr (o := 1) (s := 1) (off := 0) (o' := 1) rfl Tryz.underlying147 rfl (by kernel_rfl) rfl rfl) rfl ?_
        refine wl_y (y_load1 rfl Tryz.underlying3 rfl (B5.get (i := 1) rfl)) rfl ?_
        refine wl_y (y_move rfl) rfl ?_
        refine wl_y (y_len_slice rfl Tryz.underlying22) rfl ?_
        refine wl_y (y_move rfl) rfl ?_
        refine wl_y (y_sub rfl rfl (i64_ok (by omega) (by omega))) rfl ?_
        refine wl_y (y_gtr rfl rfl) rfl ?_
        refine wl_nil ?_
        refine wq_then_norm (hK9 ?_)
        refine wc_dec rfl (fun hc3 => ?_) (fun hc3 => ?_)
        · skip
          refine wc_seq ?_; intro K10 hK10
          refine wc_region ?_
          refine wl_y (y_loadx (o := 0) (s := 5) rfl Tryz.underlying147 rfl (by kernel_rfl) B9 rfl) rfl ?_
          refine wl_y (y_move rfl) rfl ?_
          refine wl_ef (ef_storeP (o := 0) rfl rfl (by kernel_rfl) B6 (Nat.le_of_ble_eq_true rfl) (all_ones rfl)) rfl ?_
          rintro _ wS7_2 ⟨rfl, D, cg⟩
          have ex := Chs.one cg
          clear cg
          replace F := F.chs ex
          replace KA := KA.chs ex
          replace B5 := B5.chs ex
          replace B9 := B9.chs ex
          replace B6 := D; clear D
          replace B6 := B6.congr (cs' := itemV 0 (k : Int) 0 nilH) rfl
          refine wl_y (y_assign rfl) rfl ?_
          refine wl_y (y_assign rfl) rfl ?_
          refine wl_nil ?_
          refine wq_then_norm (hK10 ?_)
          refine wc_ret ?_
          refine wq_then_ret ?_
          refine wq_blk_ret ?_
          refine wq_then_ret ?_
          refine hret rfl rfl rfl B6 rfl ?_
          have e : numAt k b at_ = (0, at_, 4) := by unfold numAt; rw [if_pos (by omega)]
          rw [e]
          exact ⟨rfl, (F.drop (by omega)).drop (by omega) |>.toExt (by simp)⟩
        · skip
          refine wc_skip ?_
          refine wq_then_norm (hK8 ?_)
          refine wc_seq ?_; intro K11 hK11
          refine wc_seq ?_; intro K12 hK12
          refine wc_region ?_
          refine wl_y (y_assign rfl) rfl ?_
          refine wl_nil ?_
          refine wq_then_norm (hK12 ?_)
          refine wc_block ?_
          refine wc_loop (fun n' L wr => ∃ (i : Nat), L = [(0, .slice A n c), (1, .int .i64 (at_ : Int)), (5, .pointer (some ⟨gB5, 0, none⟩)), (6, .pointer (some ⟨gB6, 0, none⟩)), (9, .pointer (some ⟨gB9, 0, none⟩)), (10, .int .i64 (i : Int))] ∧ n' = k - i ∧ (i ≤ k ∧ Chs [gB9, gB6] w wr ∧ Kp w.heap.size [gB9, gB6] (fun w => Bs w A n b) wr ∧ Blk wr gB5 147 (itemV 0 (k : Int) 0 nilH) ∧ Blk wr gB6 147 (itemV 0 0 0 nilH) ∧ Blk wr gB9 147 (itemV 0 (k : Int) (nb ((b.drop at_).take i)) nilH))) _ _ ⟨0, rfl, rfl, Nat.zero_le _, F, KA, B5, B6, B9⟩ ⟨rfl, (by first | rfl | exact congrArg some (int_val (by omega))), rfl, rfl, rfl, (by first | rfl | exact congrArg some (int_val (by omega))), trivial⟩ ?_
          rintro KL1 n' L wr ⟨i, rfl, rfl, hi, F, KA, B5, B6, B9⟩ hL1
          refine wc_seq ?_; intro K13 hK13
          refine wc_seq ?_; intro K14 hK14
          refine wc_region ?_
          refine wl_y (y_move rfl) rfl ?_
          refine wl_y (y_fieldAddr (o := 1) (s := 1) (off := 0) (o' := 1) rfl Tryz.underlying147 rfl (by kernel_rfl) rfl rfl) rfl ?_
          refine wl_y (y_load1 rfl Tryz.underlying3 rfl (B5.get (i := 1) rfl)) rfl ?_
          refine wl_y (y_lss rfl rfl) rfl ?_
          refine wl_nil ?_
          refine wq_then_norm (hK14 ?_)
          refine wc_dec rfl (fun hc4 => ?_) (fun hc4 => ?_)
          · skip
            refine wc_skip ?_
            refine wq_then_norm (hK13 ?_)
            refine wc_seq ?_; intro K15 hK15
            refine wc_block ?_
            have hik : i < k := by omega
            obtain ⟨b0, o0, rfl, _, _⟩ := KA.out.get (k := at_ + i) (by omega)
            have hx8 := UInt8.toNat_lt (b.getD (at_ + i) 0)
            have hlt := Nat.lt_of_lt_of_le (nb_take_lt (b.drop at_) i) (Nat.pow_le_pow_right (n := 256) (by omega) (show i ≤ 7 by omega))
            have hlt2 : nb ((b.drop at_).take i) < 72057594037927936 := hlt
            have hst := nb_take_succ (xs := b.drop at_) (k := i) (by omega)
            rw [drop_getD] at hst
            refine wc_drawJ [(12, [gB9])] (by kernel_rfl) 13 rfl ?_; intro wd11 ex hd11
            replace F := F.ext ex
            replace KA := KA.ext ex
            replace B5 := B5.ext ex
            replace B6 := B6.ext ex
            replace B9 := B9.ext ex
            refine wj_y 0 [] rfl (by kernel_rfl) (fun wr (cr : Chs ([]) _ wr) => y_fieldAddr (o := 2) (s := 1) (off := 0) (o' := 2) rfl Tryz.underlying147 rfl (by kernel_rfl) rfl rfl) rfl ?_
            refine wj_y 1 [] rfl (by kernel_rfl) (fun wr (cr : Chs ([]) _ wr) => y_load1 rfl Tryz.underlying53 rfl ((B9.chs cr).get (i := 2) rfl)) rfl ?_
            refine wj_y 2 [] rfl (by kernel_rfl) (fun wr (cr : Chs ([]) _ wr) => y_mul rfl rfl (IntWalk.u64_in _ ⟨by omega, by omega⟩)) rfl ?_
            refine wj_y 3 [] rfl (by kernel_rfl) (fun wr (cr : Chs ([]) _ wr) => y_move rfl) rfl ?_
            refine wj_y 4 [] rfl (by kernel_rfl) (fun wr (cr : Chs ([]) _ wr) => y_move rfl) rfl ?_
            refine wj_y 5 [] rfl (by kernel_rfl) (fun wr (cr : Chs ([]) _ wr) => y_move rfl) rfl ?_
            refine wj_y 6 [] rfl (by kernel_rfl) (fun wr (cr : Chs ([]) _ wr) => y_add rfl rfl (i64_ok (by omega) (by omega))) rfl ?_
            refine wj_y 7 [] rfl (by kernel_rfl) (fun wr (cr : Chs ([]) _ wr) => y_ixs1 rfl rfl Tryz.underlying22 (by kernel_rfl) (j := at_ + i) (by omega) (by omega)) rfl ?_
            refine wj_y 8 [] rfl (by kernel_rfl) (fun wr (cr : Chs ([]) _ wr) => y_load1 rfl Tryz.underlying5 rfl ((KA.chs cr).out.cellN (k := at_ + i) (by omega))) rfl ?_
            refine wj_y 9 [] rfl (by kernel_rfl) (fun wr (cr : Chs ([]) _ wr) => y_conv rfl Tryz.underlying5 Tryz.underlying53 (IntWalk.u64_in _ ⟨by omega, by omega⟩)) rfl ?_
            refine wj_y 10 [] rfl (by kernel_rfl) (fun wr (cr : Chs ([]) _ wr) => y_add rfl rfl (IntWalk.u64_in _ ⟨by omega, by omega⟩)) rfl ?_
            refine wj_y 11 [] rfl (by kernel_rfl) (fun wr (cr : Chs ([]) _ wr) => y_fieldAddr (o := 2) (s := 1) (off := 0) (o' := 2) rfl Tryz.underlying147 rfl (by kernel_rfl) rfl rfl) rfl ?_
            refine wj_one 12 (by kernel_rfl) ?_; refine oj_ef rfl (ef_storeB (i := 2) rfl rfl rfl (by kernel_rfl) B9 (Nat.le_of_ble_eq_true rfl)) rfl ?_
            rintro _ wS11_12 ⟨rfl, D, cg⟩
            have ex := Chs.one cg
            clear cg
            refine ⟨ex, ?_⟩
            replace F := F.chs ex
            replace KA := KA.chs ex
            replace B5 := B5.chs ex
            replace B6 := B6.chs ex
            replace B9 := D; clear D
            replace B9 := B9.congr (itemV_set (n' := nb ((b.drop at_).take (i + 1))) (by rw [hst]; omega))
            refine wj_done (by kernel_rfl) ?_
            refine wq_nop ?_
            refine wq_blk_norm ?_
            refine wq_then_norm (hK15 ?_)
            refine wc_region ?_
            refine wl_y (y_move rfl) rfl ?_
            refine wl_y (y_add rfl rfl (i64_ok (by omega) (by omega))) rfl ?_
            refine wl_y (y_assign rfl) rfl ?_
            refine wl_nil ?_
            refine wq_then_norm ?_
            refine hL1 _ _ ⟨i + 1, rfl, rfl, by omega, F, KA, B5, B6, B9⟩ (by omega) ⟨rfl, (by first | rfl | exact congrArg some (int_val (by omega))), rfl, rfl, rfl, (by first | rfl | exact congrArg some (int_val (by omega))), trivial⟩
          · skip
            refine wc_exit ?_
            refine wq_then_exit ?_
            refine wq_then_exit ?_
            refine wq_blk_hit ?_
            refine wq_then_norm (hK11 ?_)
            refine wc_seq ?_; intro K16 hK16
            obtain rfl : i = k := by omega
            refine wc_drawJ [(5, [gB6])] (by kernel_rfl) 8 rfl ?_; intro wd12 ex hd12
            replace F := F.ext ex
            replace KA := KA.ext ex
            replace B5 := B5.ext ex
            replace B6 := B6.ext ex
            replace B9 := B9.ext ex
            refine wj_y 0 [] rfl (by kernel_rfl) (fun wr (cr : Chs ([]) _ wr) => y_loadx (o := 0) (s := 5) rfl Tryz.underlying147 rfl (by kernel_rfl) (B9.chs cr) rfl) rfl ?_
            refine wj_y 1 [5] rfl (by kernel_rfl) (fun wr (cr : Chs ([gB6]) _ wr) => y_move rfl) rfl ?_
            refine wj_y 2 [5] rfl (by kernel_rfl) (fun wr (cr : Chs ([gB6]) _ wr) => y_fieldAddr (o := 1) (s := 1) (off := 0) (o' := 1) rfl Tryz.underlying147 rfl (by kernel_rfl) rfl rfl) rfl ?_
            refine wj_y 3 [5] rfl (by kernel_rfl) (fun wr (cr : Chs ([gB6]) _ wr) => y_load1 rfl Tryz.underlying3 rfl ((B5.chs cr).get (i := 1) rfl)) rfl ?_
            refine wj_y 4 [5] rfl (by kernel_rfl) (fun wr (cr : Chs ([gB6]) _ wr) => y_add rfl rfl (i64_ok (by omega) (by omega))) rfl ?_
            refine wj_one 5 (by kernel_rfl) ?_; refine oj_ef rfl (ef_storeP (o := 0) rfl rfl (by kernel_rfl) B6 (Nat.le_of_ble_eq_true rfl) (all_ones rfl)) rfl ?_
            rintro _ wS12_5 ⟨rfl, D, cg⟩
            have ex := Chs.one cg
            clear cg
            refine ⟨ex, ?_⟩
            replace F := F.chs ex
            replace KA := KA.chs ex
            replace B5 := B5.chs ex
            replace B9 := B9.chs ex
            replace B6 := D; clear D
            replace B6 := B6.congr (cs' := itemV 0 (i : Int) (nb ((b.drop at_).take i)) nilH) rfl
            refine wj_y 6 [] rfl (by kernel_rfl) (fun wr (cr : Chs ([]) _ wr) => y_assign rfl) rfl ?_
            refine wj_y 7 [] rfl (by kernel_rfl) (fun wr (cr : Chs ([]) _ wr) => y_assign rfl) rfl ?_
            refine wj_done (by kernel_rfl) ?_
            refine wq_nop ?_
            refine wq_then_norm (hK16 ?_)
            refine wc_ret ?_
            refine wq_blk_ret ?_
            refine wq_then_ret ?_
            refine hret rfl rfl rfl B6 rfl ?_
            have e : numAt i b at_ = (nb ((b.drop at_).take i), at_ + i, 0) := by unfold numAt; rw [if_neg (by omega)]
            rw [e]
            exact ⟨rfl, (F.drop (by omega)).drop (by omega) |>.toExt (by simp)⟩
      · skip
        refine wl_y (y_pickt rfl rfl) rfl ?_
        refine wl_y (y_move rfl) rfl ?_
        refine wl_gno 43 rfl rfl rfl rfl ?_
        refine wl_gno 43 rfl rfl rfl rfl ?_
        refine wl_gno 43 rfl rfl rfl rfl ?_
        refine wl_y (y_pickf rfl rfl) rfl ?_
        refine wl_nil ?_
        refine wq_then_norm (hK7 ?_)
        refine wc_false rfl rfl ?_
        refine wc_skip ?_
        refine wq_then_norm (hK6 ?_)
        refine wc_seq ?_; intro K17 hK17
        refine wc_seq ?_; intro K18 hK18
        refine wc_region ?_
        refine wl_y (y_fieldAddr (o := 1) (s := 1) (off := 0) (o' := 1) rfl Tryz.underlying147 rfl (by kernel_rfl) rfl rfl) rfl ?_
        refine wl_y (y_load1 rfl Tryz.underlying3 rfl (B5.get (i := 1) rfl)) rfl ?_
        refine wl_y (y_move rfl) rfl ?_
        refine wl_y (y_len_slice rfl Tryz.underlying22) rfl ?_
        refine wl_y (y_move rfl) rfl ?_
        refine wl_y (y_sub rfl rfl (i64_ok (by omega) (by omega))) rfl ?_
        refine wl_y (y_gtr rfl rfl) rfl ?_
        refine wl_nil ?_
        refine wq_then_norm (hK18 ?_)
        refine wc_dec rfl (fun hc3 => ?_) (fun hc3 => ?_)
        · skip
          refine wc_seq ?_; intro K19 hK19
          refine wc_region ?_
          refine wl_y (y_loadx (o := 0) (s := 5) rfl Tryz.underlying147 rfl (by kernel_rfl) B9 rfl) rfl ?_
          refine wl_y (y_move rfl) rfl ?_
          refine wl_ef (ef_storeP (o := 0) rfl rfl (by kernel_rfl) B6 (Nat.le_of_ble_eq_true rfl) (all_ones rfl)) rfl ?_
          rintro _ wS7_2 ⟨rfl, D, cg⟩
          have ex := Chs.one cg
          clear cg
          replace F := F.chs ex
          replace KA := KA.chs ex
          replace B5 := B5.chs ex
          replace B9 := B9.chs ex
          replace B6 := D; clear D
          replace B6 := B6.congr (cs' := itemV 0 (k : Int) 0 nilH) rfl
          refine wl_y (y_assign rfl) rfl ?_
          refine wl_y (y_assign rfl) rfl ?_
          refine wl_nil ?_
          refine wq_then_norm (hK19 ?_)
          refine wc_ret ?_
          refine wq_then_ret ?_
          refine wq_blk_ret ?_
          refine wq_then_ret ?_
          refine hret rfl rfl rfl B6 rfl ?_
          have e : numAt k b at_ = (0, at_, 4) := by unfold numAt; rw [if_pos (by omega)]
          rw [e]
          exact ⟨rfl, (F.drop (by omega)).drop (by omega) |>.toExt (by simp)⟩
        · skip
          refine wc_skip ?_
          refine wq_then_norm (hK17 ?_)
          refine wc_seq ?_; intro K20 hK20
          refine wc_seq ?_; intro K21 hK21
          refine wc_region ?_
          refine wl_y (y_assign rfl) rfl ?_
          refine wl_nil ?_
          refine wq_then_norm (hK21 ?_)
          refine wc_block ?_
          refine wc_loop (fun n' L wr => ∃ (i : Nat), L = [(0, .slice A n c), (1, .int .i64 (at_ : Int)), (5, .pointer (some ⟨gB5, 0, none⟩)), (6, .pointer (some ⟨gB6, 0, none⟩)), (9, .pointer (some ⟨gB9, 0, none⟩)), (10, .int .i64 (i : Int))] ∧ n' = k - i ∧ (i ≤ k ∧ Chs [gB9, gB6] w wr ∧ Kp w.heap.size [gB9, gB6] (fun w => Bs w A n b) wr ∧ Blk wr gB5 147 (itemV 0 (k : Int) 0 nilH) ∧ Blk wr gB6 147 (itemV 0 0 0 nilH) ∧ Blk wr gB9 147 (itemV 0 (k : Int) (nb ((b.drop at_).take i)) nilH))) _ _ ⟨0, rfl, rfl, Nat.zero_le _, F, KA, B5, B6, B9⟩ ⟨rfl, (by first | rfl | exact congrArg some (int_val (by omega))), rfl, rfl, rfl, (by first | rfl | exact congrArg some (int_val (by omega))), trivial⟩ ?_
          rintro KL1 n' L wr ⟨i, rfl, rfl, hi, F, KA, B5, B6, B9⟩ hL1
          refine wc_seq ?_; intro K22 hK22
          refine wc_seq ?_; intro K23 hK23
          refine wc_region ?_
          refine wl_y (y_move rfl) rfl ?_
          refine wl_y (y_fieldAddr (o := 1) (s := 1) (off := 0) (o' := 1) rfl Tryz.underlying147 rfl (by kernel_rfl) rfl rfl) rfl ?_
          refine wl_y (y_load1 rfl Tryz.underlying3 rfl (B5.get (i := 1) rfl)) rfl ?_
          refine wl_y (y_lss rfl rfl) rfl ?_
          refine wl_nil ?_
          refine wq_then_norm (hK23 ?_)
          refine wc_dec rfl (fun hc4 => ?_) (fun hc4 => ?_)
          · skip
            refine wc_skip ?_
            refine wq_then_norm (hK22 ?_)
            refine wc_seq ?_; intro K24 hK24
            refine wc_block ?_
            have hik : i < k := by omega
            obtain ⟨b0, o0, rfl, _, _⟩ := KA.out.get (k := at_ + i) (by omega)
            have hx8 := UInt8.toNat_lt (b.getD (at_ + i) 0)
            have hlt := Nat.lt_of_lt_of_le (nb_take_lt (b.drop at_) i) (Nat.pow_le_pow_right (n := 256) (by omega) (show i ≤ 7 by omega))
            have hlt2 : nb ((b.drop at_).take i) < 72057594037927936 := hlt
            have hst := nb_take_succ (xs := b.drop at_) (k := i) (by omega)
            rw [drop_getD] at hst
            refine wc_drawJ [(12, [gB9])] (by kernel_rfl) 13 rfl ?_; intro wd11 ex hd11
            replace F := F.ext ex
            replace KA := KA.ext ex
            replace B5 := B5.ext ex
            replace B6 := B6.ext ex
            replace B9 := B9.ext ex
            refine wj_y 0 [] rfl (by kernel_rfl) (fun wr (cr : Chs ([]) _ wr) => y_fieldAddr (o := 2) (s := 1) (off := 0) (o' := 2) rfl Tryz.underlying147 rfl (by kernel_rfl) rfl rfl) rfl ?_
            refine wj_y 1 [] rfl (by kernel_rfl) (fun wr (cr : Chs ([]) _ wr) => y_load1 rfl Tryz.underlying53 rfl ((B9.chs cr).get (i := 2) rfl)) rfl ?_
            refine wj_y 2 [] rfl (by kernel_rfl) (fun wr (cr : Chs ([]) _ wr) => y_mul rfl rfl (IntWalk.u64_in _ ⟨by omega, by omega⟩)) rfl ?_
            refine wj_y 3 [] rfl (by kernel_rfl) (fun wr (cr : Chs ([]) _ wr) => y_move rfl) rfl ?_
            refine wj_y 4 [] rfl (by kernel_rfl) (fun wr (cr : Chs ([]) _ wr) => y_move rfl) rfl ?_
            refine wj_y 5 [] rfl (by kernel_rfl) (fun wr (cr : Chs ([]) _ wr) => y_move rfl) rfl ?_
            refine wj_y 6 [] rfl (by kernel_rfl) (fun wr (cr : Chs ([]) _ wr) => y_add rfl rfl (i64_ok (by omega) (by omega))) rfl ?_
            refine wj_y 7 [] rfl (by kernel_rfl) (fun wr (cr : Chs ([]) _ wr) => y_ixs1 rfl rfl Tryz.underlying22 (by kernel_rfl) (j := at_ + i) (by omega) (by omega)) rfl ?_
            refine wj_y 8 [] rfl (by kernel_rfl) (fun wr (cr : Chs ([]) _ wr) => y_load1 rfl Tryz.underlying5 rfl ((KA.chs cr).out.cellN (k := at_ + i) (by omega))) rfl ?_
            refine wj_y 9 [] rfl (by kernel_rfl) (fun wr (cr : Chs ([]) _ wr) => y_conv rfl Tryz.underlying5 Tryz.underlying53 (IntWalk.u64_in _ ⟨by omega, by omega⟩)) rfl ?_
            refine wj_y 10 [] rfl (by kernel_rfl) (fun wr (cr : Chs ([]) _ wr) => y_add rfl rfl (IntWalk.u64_in _ ⟨by omega, by omega⟩)) rfl ?_
            refine wj_y 11 [] rfl (by kernel_rfl) (fun wr (cr : Chs ([]) _ wr) => y_fieldAddr (o := 2) (s := 1) (off := 0) (o' := 2) rfl Tryz.underlying147 rfl (by kernel_rfl) rfl rfl) rfl ?_
            refine wj_one 12 (by kernel_rfl) ?_; refine oj_ef rfl (ef_storeB (i := 2) rfl rfl rfl (by kernel_rfl) B9 (Nat.le_of_ble_eq_true rfl)) rfl ?_
            rintro _ wS11_12 ⟨rfl, D, cg⟩
            have ex := Chs.one cg
            clear cg
            refine ⟨ex, ?_⟩
            replace F := F.chs ex
            replace KA := KA.chs ex
            replace B5 := B5.chs ex
            replace B6 := B6.chs ex
            replace B9 := D; clear D
            replace B9 := B9.congr (itemV_set (n' := nb ((b.drop at_).take (i + 1))) (by rw [hst]; omega))
            refine wj_done (by kernel_rfl) ?_
            refine wq_nop ?_
            refine wq_blk_norm ?_
            refine wq_then_norm (hK24 ?_)
            refine wc_region ?_
            refine wl_y (y_move rfl) rfl ?_
            refine wl_y (y_add rfl rfl (i64_ok (by omega) (by omega))) rfl ?_
            refine wl_y (y_assign rfl) rfl ?_
            refine wl_nil ?_
            refine wq_then_norm ?_
            refine hL1 _ _ ⟨i + 1, rfl, rfl, by omega, F, KA, B5, B6, B9⟩ (by omega) ⟨rfl, (by first | rfl | exact congrArg some (int_val (by omega))), rfl, rfl, rfl, (by first | rfl | exact congrArg some (int_val (by omega))), trivial⟩
          · skip
            refine wc_exit ?_
            refine wq_then_exit ?_
            refine wq_then_exit ?_
            refine wq_blk_hit ?_
            refine wq_then_norm (hK20 ?_)
            refine wc_seq ?_; intro K25 hK25
            obtain rfl : i = k := by omega
            refine wc_drawJ [(5, [gB6])] (by kernel_rfl) 8 rfl ?_; intro wd12 ex hd12
            replace F := F.ext ex
            replace KA := KA.ext ex
            replace B5 := B5.ext ex
            replace B6 := B6.ext ex
            replace B9 := B9.ext ex
            refine wj_y 0 [] rfl (by kernel_rfl) (fun wr (cr : Chs ([]) _ wr) => y_loadx (o := 0) (s := 5) rfl Tryz.underlying147 rfl (by kernel_rfl) (B9.chs cr) rfl) rfl ?_
            refine wj_y 1 [5] rfl (by kernel_rfl) (fun wr (cr : Chs ([gB6]) _ wr) => y_move rfl) rfl ?_
            refine wj_y 2 [5] rfl (by kernel_rfl) (fun wr (cr : Chs ([gB6]) _ wr) => y_fieldAddr (o := 1) (s := 1) (off := 0) (o' := 1) rfl Tryz.underlying147 rfl (by kernel_rfl) rfl rfl) rfl ?_
            refine wj_y 3 [5] rfl (by kernel_rfl) (fun wr (cr : Chs ([gB6]) _ wr) => y_load1 rfl Tryz.underlying3 rfl ((B5.chs cr).get (i := 1) rfl)) rfl ?_
            refine wj_y 4 [5] rfl (by kernel_rfl) (fun wr (cr : Chs ([gB6]) _ wr) => y_add rfl rfl (i64_ok (by omega) (by omega))) rfl ?_
            refine wj_one 5 (by kernel_rfl) ?_; refine oj_ef rfl (ef_storeP (o := 0) rfl rfl (by kernel_rfl) B6 (Nat.le_of_ble_eq_true rfl) (all_ones rfl)) rfl ?_
            rintro _ wS12_5 ⟨rfl, D, cg⟩
            have ex := Chs.one cg
            clear cg
            refine ⟨ex, ?_⟩
            replace F := F.chs ex
            replace KA := KA.chs ex
            replace B5 := B5.chs ex
            replace B9 := B9.chs ex
            replace B6 := D; clear D
            replace B6 := B6.congr (cs' := itemV 0 (i : Int) (nb ((b.drop at_).take i)) nilH) rfl
            refine wj_y 6 [] rfl (by kernel_rfl) (fun wr (cr : Chs ([]) _ wr) => y_assign rfl) rfl ?_
            refine wj_y 7 [] rfl (by kernel_rfl) (fun wr (cr : Chs ([]) _ wr) => y_assign rfl) rfl ?_
            refine wj_done (by kernel_rfl) ?_
            refine wq_nop ?_
            refine wq_then_norm (hK25 ?_)
            refine wc_ret ?_
            refine wq_blk_ret ?_
            refine wq_then_ret ?_
            refine hret rfl rfl rfl B6 rfl ?_
            have e : numAt i b at_ = (nb ((b.drop at_).take i), at_ + i, 0) := by unfold numAt; rw [if_neg (by omega)]
            rw [e]
            exact ⟨rfl, (F.drop (by omega)).drop (by omega) |>.toExt (by simp)⟩
    · skip
      refine wl_y (y_pickt rfl rfl) rfl ?_
      refine wl_y (y_move rfl) rfl ?_
      refine wl_gno 38 rfl rfl rfl rfl ?_
      refine wl_gno 38 rfl rfl rfl rfl ?_
      refine wl_gno 38 rfl rfl rfl rfl ?_
      refine wl_y (y_pickf rfl rfl) rfl ?_
      refine wl_y (y_move rfl) rfl ?_
      refine wl_gno 43 rfl rfl rfl rfl ?_
      refine wl_gno 43 rfl rfl rfl rfl ?_
      refine wl_gno 43 rfl rfl rfl rfl ?_
      refine wl_y (y_pickf rfl rfl) rfl ?_
      refine wl_nil ?_
      refine wq_then_norm (hK7 ?_)
      refine wc_false rfl rfl ?_
      refine wc_skip ?_
      refine wq_then_norm (hK6 ?_)
      refine wc_seq ?_; intro K26 hK26
      refine wc_seq ?_; intro K27 hK27
      refine wc_region ?_
      refine wl_y (y_fieldAddr (o := 1) (s := 1) (off := 0) (o' := 1) rfl Tryz.underlying147 rfl (by kernel_rfl) rfl rfl) rfl ?_
      refine wl_y (y_load1 rfl Tryz.underlying3 rfl (B5.get (i := 1) rfl)) rfl ?_
      refine wl_y (y_move rfl) rfl ?_
      refine wl_y (y_len_slice rfl Tryz.underlying22) rfl ?_
      refine wl_y (y_move rfl) rfl ?_
      refine wl_y (y_sub rfl rfl (i64_ok (by omega) (by omega))) rfl ?_
      refine wl_y (y_gtr rfl rfl) rfl ?_
      refine wl_nil ?_
      refine wq_then_norm (hK27 ?_)
      refine wc_dec rfl (fun hc3 => ?_) (fun hc3 => ?_)
      · skip
        refine wc_seq ?_; intro K28 hK28
        refine wc_region ?_
        refine wl_y (y_loadx (o := 0) (s := 5) rfl Tryz.underlying147 rfl (by kernel_rfl) B9 rfl) rfl ?_
        refine wl_y (y_move rfl) rfl ?_
        refine wl_ef (ef_storeP (o := 0) rfl rfl (by kernel_rfl) B6 (Nat.le_of_ble_eq_true rfl) (all_ones rfl)) rfl ?_
        rintro _ wS7_2 ⟨rfl, D, cg⟩
        have ex := Chs.one cg
        clear cg
        replace F := F.chs ex
        replace KA := KA.chs ex
        replace B5 := B5.chs ex
        replace B9 := B9.chs ex
        replace B6 := D; clear D
        replace B6 := B6.congr (cs' := itemV 0 (k : Int) 0 nilH) rfl
        refine wl_y (y_assign rfl) rfl ?_
        refine wl_y (y_assign rfl) rfl ?_
        refine wl_nil ?_
        refine wq_then_norm (hK28 ?_)
        refine wc_ret ?_
        refine wq_then_ret ?_
        refine wq_blk_ret ?_
        refine wq_then_ret ?_
        refine hret rfl rfl rfl B6 rfl ?_
        have e : numAt k b at_ = (0, at_, 4) := by unfold numAt; rw [if_pos (by omega)]
        rw [e]
        exact ⟨rfl, (F.drop (by omega)).drop (by omega) |>.toExt (by simp)⟩
      · skip
        refine wc_skip ?_
        refine wq_then_norm (hK26 ?_)
        refine wc_seq ?_; intro K29 hK29
        refine wc_seq ?_; intro K30 hK30
        refine wc_region ?_
        refine wl_y (y_assign rfl) rfl ?_
        refine wl_nil ?_
        refine wq_then_norm (hK30 ?_)
        refine wc_block ?_
        refine wc_loop (fun n' L wr => ∃ (i : Nat), L = [(0, .slice A n c), (1, .int .i64 (at_ : Int)), (5, .pointer (some ⟨gB5, 0, none⟩)), (6, .pointer (some ⟨gB6, 0, none⟩)), (9, .pointer (some ⟨gB9, 0, none⟩)), (10, .int .i64 (i : Int))] ∧ n' = k - i ∧ (i ≤ k ∧ Chs [gB9, gB6] w wr ∧ Kp w.heap.size [gB9, gB6] (fun w => Bs w A n b) wr ∧ Blk wr gB5 147 (itemV 0 (k : Int) 0 nilH) ∧ Blk wr gB6 147 (itemV 0 0 0 nilH) ∧ Blk wr gB9 147 (itemV 0 (k : Int) (nb ((b.drop at_).take i)) nilH))) _ _ ⟨0, rfl, rfl, Nat.zero_le _, F, KA, B5, B6, B9⟩ ⟨rfl, (by first | rfl | exact congrArg some (int_val (by omega))), rfl, rfl, rfl, (by first | rfl | exact congrArg some (int_val (by omega))), trivial⟩ ?_
        rintro KL1 n' L wr ⟨i, rfl, rfl, hi, F, KA, B5, B6, B9⟩ hL1
        refine wc_seq ?_; intro K31 hK31
        refine wc_seq ?_; intro K32 hK32
        refine wc_region ?_
        refine wl_y (y_move rfl) rfl ?_
        refine wl_y (y_fieldAddr (o := 1) (s := 1) (off := 0) (o' := 1) rfl Tryz.underlying147 rfl (by kernel_rfl) rfl rfl) rfl ?_
        refine wl_y (y_load1 rfl Tryz.underlying3 rfl (B5.get (i := 1) rfl)) rfl ?_
        refine wl_y (y_lss rfl rfl) rfl ?_
        refine wl_nil ?_
        refine wq_then_norm (hK32 ?_)
        refine wc_dec rfl (fun hc4 => ?_) (fun hc4 => ?_)
        · skip
          refine wc_skip ?_
          refine wq_then_norm (hK31 ?_)
          refine wc_seq ?_; intro K33 hK33
          refine wc_block ?_
          have hik : i < k := by omega
          obtain ⟨b0, o0, rfl, _, _⟩ := KA.out.get (k := at_ + i) (by omega)
          have hx8 := UInt8.toNat_lt (b.getD (at_ + i) 0)
          have hlt := Nat.lt_of_lt_of_le (nb_take_lt (b.drop at_) i) (Nat.pow_le_pow_right (n := 256) (by omega) (show i ≤ 7 by omega))
          have hlt2 : nb ((b.drop at_).take i) < 72057594037927936 := hlt
          have hst := nb_take_succ (xs := b.drop at_) (k := i) (by omega)
          rw [drop_getD] at hst
          refine wc_drawJ [(12, [gB9])] (by kernel_rfl) 13 rfl ?_; intro wd11 ex hd11
          replace F := F.ext ex
          replace KA := KA.ext ex
          replace B5 := B5.ext ex
          replace B6 := B6.ext ex
          replace B9 := B9.ext ex
          refine wj_y 0 [] rfl (by kernel_rfl) (fun wr (cr : Chs ([]) _ wr) => y_fieldAddr (o := 2) (s := 1) (off := 0) (o' := 2) rfl Tryz.underlying147 rfl (by kernel_rfl) rfl rfl) rfl ?_
          refine wj_y 1 [] rfl (by kernel_rfl) (fun wr (cr : Chs ([]) _ wr) => y_load1 rfl Tryz.underlying53 rfl ((B9.chs cr).get (i := 2) rfl)) rfl ?_
          refine wj_y 2 [] rfl (by kernel_rfl) (fun wr (cr : Chs ([]) _ wr) => y_mul rfl rfl (IntWalk.u64_in _ ⟨by omega, by omega⟩)) rfl ?_
          refine wj_y 3 [] rfl (by kernel_rfl) (fun wr (cr : Chs ([]) _ wr) => y_move rfl) rfl ?_
          refine wj_y 4 [] rfl (by kernel_rfl) (fun wr (cr : Chs ([]) _ wr) => y_move rfl) rfl ?_
          refine wj_y 5 [] rfl (by kernel_rfl) (fun wr (cr : Chs ([]) _ wr) => y_move rfl) rfl ?_
          refine wj_y 6 [] rfl (by kernel_rfl) (fun wr (cr : Chs ([]) _ wr) => y_add rfl rfl (i64_ok (by omega) (by omega))) rfl ?_
          refine wj_y 7 [] rfl (by kernel_rfl) (fun wr (cr : Chs ([]) _ wr) => y_ixs1 rfl rfl Tryz.underlying22 (by kernel_rfl) (j := at_ + i) (by omega) (by omega)) rfl ?_
          refine wj_y 8 [] rfl (by kernel_rfl) (fun wr (cr : Chs ([]) _ wr) => y_load1 rfl Tryz.underlying5 rfl ((KA.chs cr).out.cellN (k := at_ + i) (by omega))) rfl ?_
          refine wj_y 9 [] rfl (by kernel_rfl) (fun wr (cr : Chs ([]) _ wr) => y_conv rfl Tryz.underlying5 Tryz.underlying53 (IntWalk.u64_in _ ⟨by omega, by omega⟩)) rfl ?_
          refine wj_y 10 [] rfl (by kernel_rfl) (fun wr (cr : Chs ([]) _ wr) => y_add rfl rfl (IntWalk.u64_in _ ⟨by omega, by omega⟩)) rfl ?_
          refine wj_y 11 [] rfl (by kernel_rfl) (fun wr (cr : Chs ([]) _ wr) => y_fieldAddr (o := 2) (s := 1) (off := 0) (o' := 2) rfl Tryz.underlying147 rfl (by kernel_rfl) rfl rfl) rfl ?_
          refine wj_one 12 (by kernel_rfl) ?_; refine oj_ef rfl (ef_storeB (i := 2) rfl rfl rfl (by kernel_rfl) B9 (Nat.le_of_ble_eq_true rfl)) rfl ?_
          rintro _ wS11_12 ⟨rfl, D, cg⟩
          have ex := Chs.one cg
          clear cg
          refine ⟨ex, ?_⟩
          replace F := F.chs ex
          replace KA := KA.chs ex
          replace B5 := B5.chs ex
          replace B6 := B6.chs ex
          replace B9 := D; clear D
          replace B9 := B9.congr (itemV_set (n' := nb ((b.drop at_).take (i + 1))) (by rw [hst]; omega))
          refine wj_done (by kernel_rfl) ?_
          refine wq_nop ?_
          refine wq_blk_norm ?_
          refine wq_then_norm (hK33 ?_)
          refine wc_region ?_
          refine wl_y (y_move rfl) rfl ?_
          refine wl_y (y_add rfl rfl (i64_ok (by omega) (by omega))) rfl ?_
          refine wl_y (y_assign rfl) rfl ?_
          refine wl_nil ?_
          refine wq_then_norm ?_
          refine hL1 _ _ ⟨i + 1, rfl, rfl, by omega, F, KA, B5, B6, B9⟩ (by omega) ⟨rfl, (by first | rfl | exact congrArg some (int_val (by omega))), rfl, rfl, rfl, (by first | rfl | exact congrArg some (int_val (by omega))), trivial⟩
        · skip
          refine wc_exit ?_
          refine wq_then_exit ?_
          refine wq_then_exit ?_
          refine wq_blk_hit ?_
          refine wq_then_norm (hK29 ?_)
          refine wc_seq ?_; intro K34 hK34
          obtain rfl : i = k := by omega
          refine wc_drawJ [(5, [gB6])] (by kernel_rfl) 8 rfl ?_; intro wd12 ex hd12
          replace F := F.ext ex
          replace KA := KA.ext ex
          replace B5 := B5.ext ex
          replace B6 := B6.ext ex
          replace B9 := B9.ext ex
          refine wj_y 0 [] rfl (by kernel_rfl) (fun wr (cr : Chs ([]) _ wr) => y_loadx (o := 0) (s := 5) rfl Tryz.underlying147 rfl (by kernel_rfl) (B9.chs cr) rfl) rfl ?_
          refine wj_y 1 [5] rfl (by kernel_rfl) (fun wr (cr : Chs ([gB6]) _ wr) => y_move rfl) rfl ?_
          refine wj_y 2 [5] rfl (by kernel_rfl) (fun wr (cr : Chs ([gB6]) _ wr) => y_fieldAddr (o := 1) (s := 1) (off := 0) (o' := 1) rfl Tryz.underlying147 rfl (by kernel_rfl) rfl rfl) rfl ?_
          refine wj_y 3 [5] rfl (by kernel_rfl) (fun wr (cr : Chs ([gB6]) _ wr) => y_load1 rfl Tryz.underlying3 rfl ((B5.chs cr).get (i := 1) rfl)) rfl ?_
          refine wj_y 4 [5] rfl (by kernel_rfl) (fun wr (cr : Chs ([gB6]) _ wr) => y_add rfl rfl (i64_ok (by omega) (by omega))) rfl ?_
          refine wj_one 5 (by kernel_rfl) ?_; refine oj_ef rfl (ef_storeP (o := 0) rfl rfl (by kernel_rfl) B6 (Nat.le_of_ble_eq_true rfl) (all_ones rfl)) rfl ?_
          rintro _ wS12_5 ⟨rfl, D, cg⟩
          have ex := Chs.one cg
          clear cg
          refine ⟨ex, ?_⟩
          replace F := F.chs ex
          replace KA := KA.chs ex
          replace B5 := B5.chs ex
          replace B9 := B9.chs ex
          replace B6 := D; clear D
          replace B6 := B6.congr (cs' := itemV 0 (i : Int) (nb ((b.drop at_).take i)) nilH) rfl
          refine wj_y 6 [] rfl (by kernel_rfl) (fun wr (cr : Chs ([]) _ wr) => y_assign rfl) rfl ?_
          refine wj_y 7 [] rfl (by kernel_rfl) (fun wr (cr : Chs ([]) _ wr) => y_assign rfl) rfl ?_
          refine wj_done (by kernel_rfl) ?_
          refine wq_nop ?_
          refine wq_then_norm (hK34 ?_)
          refine wc_ret ?_
          refine wq_blk_ret ?_
          refine wq_then_ret ?_
          refine hret rfl rfl rfl B6 rfl ?_
          have e : numAt i b at_ = (nb ((b.drop at_).take i), at_ + i, 0) := by unfold numAt; rw [if_neg (by omega)]
          rw [e]
          exact ⟨rfl, (F.drop (by omega)).drop (by omega) |>.toExt (by simp)⟩
  · skip
    refine wl_y (y_move rfl) rfl ?_
    refine wl_gno 33 rfl rfl rfl rfl ?_
    refine wl_gno 33 rfl rfl rfl rfl ?_
    refine wl_gno 33 rfl rfl rfl rfl ?_
    refine wl_y (y_pickf rfl rfl) rfl ?_
    refine wl_y (y_move rfl) rfl ?_
    refine wl_gno 38 rfl rfl rfl rfl ?_
    refine wl_gno 38 rfl rfl rfl rfl ?_
    refine wl_gno 38 rfl rfl rfl rfl ?_
    refine wl_y (y_pickf rfl rfl) rfl ?_
    refine wl_y (y_move rfl) rfl ?_
    refine wl_gno 43 rfl rfl rfl rfl ?_
    refine wl_gno 43 rfl rfl rfl rfl ?_
    refine wl_gno 43 rfl rfl rfl rfl ?_
    refine wl_y (y_pickf rfl rfl) rfl ?_
    refine wl_nil ?_
    refine wq_then_norm (hK7 ?_)
    refine wc_false rfl rfl ?_
    refine wc_skip ?_
    refine wq_then_norm (hK6 ?_)
    refine wc_seq ?_; intro K35 hK35
    refine wc_seq ?_; intro K36 hK36
    refine wc_region ?_
    refine wl_y (y_fieldAddr (o := 1) (s := 1) (off := 0) (o' := 1) rfl Tryz.underlying147 rfl (by kernel_rfl) rfl rfl) rfl ?_
    refine wl_y (y_load1 rfl Tryz.underlying3 rfl (B5.get (i := 1) rfl)) rfl ?_
    refine wl_y (y_move rfl) rfl ?_
    refine wl_y (y_len_slice rfl Tryz.underlying22) rfl ?_
    refine wl_y (y_move rfl) rfl ?_
    refine wl_y (y_sub rfl rfl (i64_ok (by omega) (by omega))) rfl ?_
    refine wl_y (y_gtr rfl rfl) rfl ?_
    refine wl_nil ?_
    refine wq_then_norm (hK36 ?_)
    refine wc_dec rfl (fun hc3 => ?_) (fun hc3 => ?_)
    · skip
      refine wc_seq ?_; intro K37 hK37
      refine wc_region ?_
      refine wl_y (y_loadx (o := 0) (s := 5) rfl Tryz.underlying147 rfl (by kernel_rfl) B9 rfl) rfl ?_
      refine wl_y (y_move rfl) rfl ?_
      refine wl_ef (ef_storeP (o := 0) rfl rfl (by kernel_rfl) B6 (Nat.le_of_ble_eq_true rfl) (all_ones rfl)) rfl ?_
      rintro _ wS7_2 ⟨rfl, D, cg⟩
      have ex := Chs.one cg
      clear cg
      replace F := F.chs ex
      replace KA := KA.chs ex
      replace B5 := B5.chs ex
      replace B9 := B9.chs ex
      replace B6 := D; clear D
      replace B6 := B6.congr (cs' := itemV 0 (k : Int) 0 nilH) rfl
      refine wl_y (y_assign rfl) rfl ?_
      refine wl_y (y_assign rfl) rfl ?_
      refine wl_nil ?_
      refine wq_then_norm (hK37 ?_)
      refine wc_ret ?_
      refine wq_then_ret ?_
      refine wq_blk_ret ?_
      refine wq_then_ret ?_
      refine hret rfl rfl rfl B6 rfl ?_
      have e : numAt k b at_ = (0, at_, 4) := by unfold numAt; rw [if_pos (by omega)]
      rw [e]
      exact ⟨rfl, (F.drop (by omega)).drop (by omega) |>.toExt (by simp)⟩
    · skip
      refine wc_skip ?_
      refine wq_then_norm (hK35 ?_)
      refine wc_seq ?_; intro K38 hK38
      refine wc_seq ?_; intro K39 hK39
      refine wc_region ?_
      refine wl_y (y_assign rfl) rfl ?_
      refine wl_nil ?_
      refine wq_then_norm (hK39 ?_)
      refine wc_block ?_
      refine wc_loop (fun n' L wr => ∃ (i : Nat), L = [(0, .slice A n c), (1, .int .i64 (at_ : Int)), (5, .pointer (some ⟨gB5, 0, none⟩)), (6, .pointer (some ⟨gB6, 0, none⟩)), (9, .pointer (some ⟨gB9, 0, none⟩)), (10, .int .i64 (i : Int))] ∧ n' = k - i ∧ (i ≤ k ∧ Chs [gB9, gB6] w wr ∧ Kp w.heap.size [gB9, gB6] (fun w => Bs w A n b) wr ∧ Blk wr gB5 147 (itemV 0 (k : Int) 0 nilH) ∧ Blk wr gB6 147 (itemV 0 0 0 nilH) ∧ Blk wr gB9 147 (itemV 0 (k : Int) (nb ((b.drop at_).take i)) nilH))) _ _ ⟨0, rfl, rfl, Nat.zero_le _, F, KA, B5, B6, B9⟩ ⟨rfl, (by first | rfl | exact congrArg some (int_val (by omega))), rfl, rfl, rfl, (by first | rfl | exact congrArg some (int_val (by omega))), trivial⟩ ?_
      rintro KL1 n' L wr ⟨i, rfl, rfl, hi, F, KA, B5, B6, B9⟩ hL1
      refine wc_seq ?_; intro K40 hK40
      refine wc_seq ?_; intro K41 hK41
      refine wc_region ?_
      refine wl_y (y_move rfl) rfl ?_
      refine wl_y (y_fieldAddr (o := 1) (s := 1) (off := 0) (o' := 1) rfl Tryz.underlying147 rfl (by kernel_rfl) rfl rfl) rfl ?_
      refine wl_y (y_load1 rfl Tryz.underlying3 rfl (B5.get (i := 1) rfl)) rfl ?_
      refine wl_y (y_lss rfl rfl) rfl ?_
      refine wl_nil ?_
      refine wq_then_norm (hK41 ?_)
      refine wc_dec rfl (fun hc4 => ?_) (fun hc4 => ?_)
      · skip
        refine wc_skip ?_
        refine wq_then_norm (hK40 ?_)
        refine wc_seq ?_; intro K42 hK42
        refine wc_block ?_
        have hik : i < k := by omega
        obtain ⟨b0, o0, rfl, _, _⟩ := KA.out.get (k := at_ + i) (by omega)
        have hx8 := UInt8.toNat_lt (b.getD (at_ + i) 0)
        have hlt := Nat.lt_of_lt_of_le (nb_take_lt (b.drop at_) i) (Nat.pow_le_pow_right (n := 256) (by omega) (show i ≤ 7 by omega))
        have hlt2 : nb ((b.drop at_).take i) < 72057594037927936 := hlt
        have hst := nb_take_succ (xs := b.drop at_) (k := i) (by omega)
        rw [drop_getD] at hst
        refine wc_drawJ [(12, [gB9])] (by kernel_rfl) 13 rfl ?_; intro wd11 ex hd11
        replace F := F.ext ex
        replace KA := KA.ext ex
        replace B5 := B5.ext ex
        replace B6 := B6.ext ex
        replace B9 := B9.ext ex
        refine wj_y 0 [] rfl (by kernel_rfl) (fun wr (cr : Chs ([]) _ wr) => y_fieldAddr (o := 2) (s := 1) (off := 0) (o' := 2) rfl Tryz.underlying147 rfl (by kernel_rfl) rfl rfl) rfl ?_
        refine wj_y 1 [] rfl (by kernel_rfl) (fun wr (cr : Chs ([]) _ wr) => y_load1 rfl Tryz.underlying53 rfl ((B9.chs cr).get (i := 2) rfl)) rfl ?_
        refine wj_y 2 [] rfl (by kernel_rfl) (fun wr (cr : Chs ([]) _ wr) => y_mul rfl rfl (IntWalk.u64_in _ ⟨by omega, by omega⟩)) rfl ?_
        refine wj_y 3 [] rfl (by kernel_rfl) (fun wr (cr : Chs ([]) _ wr) => y_move rfl) rfl ?_
        refine wj_y 4 [] rfl (by kernel_rfl) (fun wr (cr : Chs ([]) _ wr) => y_move rfl) rfl ?_
        refine wj_y 5 [] rfl (by kernel_rfl) (fun wr (cr : Chs ([]) _ wr) => y_move rfl) rfl ?_
        refine wj_y 6 [] rfl (by kernel_rfl) (fun wr (cr : Chs ([]) _ wr) => y_add rfl rfl (i64_ok (by omega) (by omega))) rfl ?_
        refine wj_y 7 [] rfl (by kernel_rfl) (fun wr (cr : Chs ([]) _ wr) => y_ixs1 rfl rfl Tryz.underlying22 (by kernel_rfl) (j := at_ + i) (by omega) (by omega)) rfl ?_
        refine wj_y 8 [] rfl (by kernel_rfl) (fun wr (cr : Chs ([]) _ wr) => y_load1 rfl Tryz.underlying5 rfl ((KA.chs cr).out.cellN (k := at_ + i) (by omega))) rfl ?_
        refine wj_y 9 [] rfl (by kernel_rfl) (fun wr (cr : Chs ([]) _ wr) => y_conv rfl Tryz.underlying5 Tryz.underlying53 (IntWalk.u64_in _ ⟨by omega, by omega⟩)) rfl ?_
        refine wj_y 10 [] rfl (by kernel_rfl) (fun wr (cr : Chs ([]) _ wr) => y_add rfl rfl (IntWalk.u64_in _ ⟨by omega, by omega⟩)) rfl ?_
        refine wj_y 11 [] rfl (by kernel_rfl) (fun wr (cr : Chs ([]) _ wr) => y_fieldAddr (o := 2) (s := 1) (off := 0) (o' := 2) rfl Tryz.underlying147 rfl (by kernel_rfl) rfl rfl) rfl ?_
        refine wj_one 12 (by kernel_rfl) ?_; refine oj_ef rfl (ef_storeB (i := 2) rfl rfl rfl (by kernel_rfl) B9 (Nat.le_of_ble_eq_true rfl)) rfl ?_
        rintro _ wS11_12 ⟨rfl, D, cg⟩
        have ex := Chs.one cg
        clear cg
        refine ⟨ex, ?_⟩
        replace F := F.chs ex
        replace KA := KA.chs ex
        replace B5 := B5.chs ex
        replace B6 := B6.chs ex
        replace B9 := D; clear D
        replace B9 := B9.congr (itemV_set (n' := nb ((b.drop at_).take (i + 1))) (by rw [hst]; omega))
        refine wj_done (by kernel_rfl) ?_
        refine wq_nop ?_
        refine wq_blk_norm ?_
        refine wq_then_norm (hK42 ?_)
        refine wc_region ?_
        refine wl_y (y_move rfl) rfl ?_
        refine wl_y (y_add rfl rfl (i64_ok (by omega) (by omega))) rfl ?_
        refine wl_y (y_assign rfl) rfl ?_
        refine wl_nil ?_
        refine wq_then_norm ?_
        refine hL1 _ _ ⟨i + 1, rfl, rfl, by omega, F, KA, B5, B6, B9⟩ (by omega) ⟨rfl, (by first | rfl | exact congrArg some (int_val (by omega))), rfl, rfl, rfl, (by first | rfl | exact congrArg some (int_val (by omega))), trivial⟩
      · skip
        refine wc_exit ?_
        refine wq_then_exit ?_
        refine wq_then_exit ?_
        refine wq_blk_hit ?_
        refine wq_then_norm (hK38 ?_)
        refine wc_seq ?_; intro K43 hK43
        obtain rfl : i = k := by omega
        refine wc_drawJ [(5, [gB6])] (by kernel_rfl) 8 rfl ?_; intro wd12 ex hd12
        replace F := F.ext ex
        replace KA := KA.ext ex
        replace B5 := B5.ext ex
        replace B6 := B6.ext ex
        replace B9 := B9.ext ex
        refine wj_y 0 [] rfl (by kernel_rfl) (fun wr (cr : Chs ([]) _ wr) => y_loadx (o := 0) (s := 5) rfl Tryz.underlying147 rfl (by kernel_rfl) (B9.chs cr) rfl) rfl ?_
        refine wj_y 1 [5] rfl (by kernel_rfl) (fun wr (cr : Chs ([gB6]) _ wr) => y_move rfl) rfl ?_
        refine wj_y 2 [5] rfl (by kernel_rfl) (fun wr (cr : Chs ([gB6]) _ wr) => y_fieldAddr (o := 1) (s := 1) (off := 0) (o' := 1) rfl Tryz.underlying147 rfl (by kernel_rfl) rfl rfl) rfl ?_
        refine wj_y 3 [5] rfl (by kernel_rfl) (fun wr (cr : Chs ([gB6]) _ wr) => y_load1 rfl Tryz.underlying3 rfl ((B5.chs cr).get (i := 1) rfl)) rfl ?_
        refine wj_y 4 [5] rfl (by kernel_rfl) (fun wr (cr : Chs ([gB6]) _ wr) => y_add rfl rfl (i64_ok (by omega) (by omega))) rfl ?_
        refine wj_one 5 (by kernel_rfl) ?_; refine oj_ef rfl (ef_storeP (o := 0) rfl rfl (by kernel_rfl) B6 (Nat.le_of_ble_eq_true rfl) (all_ones rfl)) rfl ?_
        rintro _ wS12_5 ⟨rfl, D, cg⟩
        have ex := Chs.one cg
        clear cg
        refine ⟨ex, ?_⟩
        replace F := F.chs ex
        replace KA := KA.chs ex
        replace B5 := B5.chs ex
        replace B9 := B9.chs ex
        replace B6 := D; clear D
        replace B6 := B6.congr (cs' := itemV 0 (i : Int) (nb ((b.drop at_).take i)) nilH) rfl
        refine wj_y 6 [] rfl (by kernel_rfl) (fun wr (cr : Chs ([]) _ wr) => y_assign rfl) rfl ?_
        refine wj_y 7 [] rfl (by kernel_rfl) (fun wr (cr : Chs ([]) _ wr) => y_assign rfl) rfl ?_
        refine wj_done (by kernel_rfl) ?_
        refine wq_nop ?_
        refine wq_then_norm (hK43 ?_)
        refine wc_ret ?_
        refine wq_blk_ret ?_
        refine wq_then_ret ?_
        refine hret rfl rfl rfl B6 rfl ?_
        have e : numAt i b at_ = (nb ((b.drop at_).take i), at_ + i, 0) := by unfold numAt; rw [if_neg (by omega)]
        rw [e]
        exact ⟨rfl, (F.drop (by omega)).drop (by omega) |>.toExt (by simp)⟩
/-- The reference's flag at a place. -/
def flagAt (b : List UInt8) (at_ : Nat) : Nat × Nat × Nat := if b.length ≤ at_ then (0, at_, 4) else if 1 < (b.getD at_ 0).toNat then (0, at_, 3) else ((b.getD at_ 0).toNat, at_ + 1, 0)
theorem rtakeF_any {A : Option Addr} {n c at_ : Nat} {b : List UInt8} (w : World) (HA : Bs w A n b) (hn : n ≤ 1000000) (hat : at_ ≤ n) :
    Calls Tryz.prog 106 #[.slice A n c, .int .i64 (at_ : Int), .agg (itemV 3 0 0 nilH)] w fun e w' => e = .returned (.tuple #[.agg (itemV 3 0 (flagAt b at_).1 nilH), .int .i64 (((flagAt b at_).2.1 : Nat) : Int), .int .i64 (((flagAt b at_).2.2 : Nat) : Int)]) ∧ Ext w w' := by
  have F := Chs.refl [] w
  have KA : Kp w.heap.size [] (fun w => Bs w A n b) w := Kp.bs HA (by simp)
  have hbl := HA.1
  refine vc_enterctt (s := 5) 186 Tryz.func106 rfl rfl rfl Tryz.underlying147 rfl (by kernel_rfl) rfl ?_
  intro Q hret
  refine wc_seq ?_; intro K1 hK1
  refine wc_region ?_
  refine wl_ef (ef_box rfl rfl) rfl ?_
  rintro _ wB5 ⟨gB5, rfl, B5, hgB5, ex⟩
  have lB5 := B5.lt; have zB5 := ex.size
  replace F := F.ext ex
  replace KA := KA.ext ex
  refine wl_ef (ef_alloc (Z := #[.int .i64 0, .int .i64 0, .int .u64 0, .slice none 0 0, .slice none 0 0]) (by kernel_rfl)) rfl ?_
  rintro _ wB6 ⟨gB6, rfl, B6, hgB6, ex⟩
  have lB6 := B6.lt; have zB6 := ex.size
  replace F := F.grow ex hgB6
  replace KA := KA.grow ex hgB6
  replace B5 := B5.grow ex hgB6
  refine wl_y (y_assign rfl) rfl ?_
  refine wl_y (y_assign rfl) rfl ?_
  refine wl_nil ?_
  refine wq_then_norm (hK1 ?_)
  refine wc_seq ?_; intro K2 hK2
  refine wc_region ?_
  refine wl_y (y_fieldAddr (o := 0) (s := 1) (off := 0) (o' := 0) rfl Tryz.underlying147 rfl (by kernel_rfl) rfl rfl) rfl ?_
  refine wl_y (y_load1 rfl Tryz.underlying3 rfl (B5.get (i := 0) rfl)) rfl ?_
  refine wl_y (y_fieldAddr (o := 1) (s := 1) (off := 0) (o' := 1) rfl Tryz.underlying147 rfl (by kernel_rfl) rfl rfl) rfl ?_
  refine wl_y (y_load1 rfl Tryz.underlying3 rfl (B5.get (i := 1) rfl)) rfl ?_
  refine wl_y (y_build rfl (cells := itemV 3 0 0 nilH) (by kernel_rfl)) rfl ?_
  refine wl_ef (ef_alloc (Z := #[.int .i64 0, .int .i64 0, .int .u64 0, .slice none 0 0, .slice none 0 0]) (by kernel_rfl)) rfl ?_
  rintro _ wB9 ⟨gB9, rfl, B9, hgB9, ex⟩
  have lB9 := B9.lt; have zB9 := ex.size
  have nB6_9 : gB6 < gB9 := Nat.lt_of_lt_of_le B6.lt hgB9
  replace F := F.grow ex hgB9
  replace KA := KA.grow ex hgB9
  replace B5 := B5.grow ex hgB9
  replace B6 := B6.grow ex hgB9
  refine wl_ef (ef_storeP (o := 0) rfl rfl (by kernel_rfl) B9 (Nat.le_of_ble_eq_true rfl) (all_ones rfl)) rfl ?_
  rintro _ wS1_6 ⟨rfl, D, cg⟩
  have ex := Chs.one cg
  clear cg
  replace F := F.chs ex
  replace KA := KA.chs ex
  replace B5 := B5.chs ex
  replace B6 := B6.chs ex
  replace B9 := D; clear D
  replace B9 := B9.congr (cs' := itemV 3 0 0 nilH) rfl
  refine wl_nil ?_
  refine wq_then_norm (hK2 ?_)
  refine wc_seq ?_; intro K3 hK3
  refine wc_seq ?_; intro K4 hK4
  refine wc_region ?_
  refine wl_y (y_fieldAddr (o := 0) (s := 1) (off := 0) (o' := 0) rfl Tryz.underlying147 rfl (by kernel_rfl) rfl rfl) rfl ?_
  refine wl_y (y_load1 rfl Tryz.underlying3 rfl (B5.get (i := 0) rfl)) rfl ?_
  refine wl_nil ?_
  refine wq_then_norm (hK4 ?_)
  refine wc_block ?_
  refine wc_seq ?_; intro K5 hK5
  refine wc_region ?_
  refine wl_y (Y.as (y_eql rfl rfl) (congrArg Value.bool (decide_eq_false (by omega)))) rfl ?_
  refine wl_y (y_assign rfl) rfl ?_
  refine wl_nil ?_
  refine wq_then_norm (hK5 ?_)
  refine wc_false rfl rfl ?_
  refine wc_seq ?_; intro K6 hK6
  refine wc_region ?_
  refine wl_y (Y.as (y_eql rfl rfl) (congrArg Value.bool (decide_eq_false (by omega)))) rfl ?_
  refine wl_y (y_assign rfl) rfl ?_
  refine wl_nil ?_
  refine wq_then_norm (hK6 ?_)
  refine wc_false rfl rfl ?_
  refine wc_seq ?_; intro K7 hK7
  refine wc_region ?_
  refine wl_y (Y.as (y_eql rfl rfl) (congrArg Value.bool (decide_eq_false (by omega)))) rfl ?_
  refine wl_y (y_assign rfl) rfl ?_
  refine wl_nil ?_
  refine wq_then_norm (hK7 ?_)
  refine wc_false rfl rfl ?_
  refine wc_seq ?_; intro K8 hK8
  refine wc_region ?_
  refine wl_y (Y.as (y_eql rfl rfl) (congrArg Value.bool (decide_eq_true rfl))) rfl ?_
  refine wl_y (y_assign rfl) rfl ?_
  refine wl_nil ?_
  refine wq_then_norm (hK8 ?_)
  refine wc_true rfl rfl ?_
  refine wc_seq ?_; intro K9 hK9
  refine wc_seq ?_; intro K10 hK10
  refine wc_region ?_
  refine wl_y (y_move rfl) rfl ?_
  refine wl_y (y_move rfl) rfl ?_
  refine wl_y (y_len_slice rfl Tryz.underlying22) rfl ?_
  refine wl_y (y_geq rfl rfl) rfl ?_
  refine wl_nil ?_
  refine wq_then_norm (hK10 ?_)
  refine wc_dec rfl (fun hc11 => ?_) (fun hc11 => ?_)
  · skip
    refine wc_seq ?_; intro K11 hK11
    refine wc_region ?_
    refine wl_y (y_loadx (o := 0) (s := 5) rfl Tryz.underlying147 rfl (by kernel_rfl) B9 rfl) rfl ?_
    refine wl_y (y_move rfl) rfl ?_
    refine wl_ef (ef_storeP (o := 0) rfl rfl (by kernel_rfl) B6 (Nat.le_of_ble_eq_true rfl) (all_ones rfl)) rfl ?_
    rintro _ wS32_2 ⟨rfl, D, cg⟩
    have ex := Chs.one cg
    clear cg
    replace F := F.chs ex
    replace KA := KA.chs ex
    replace B5 := B5.chs ex
    replace B9 := B9.chs ex
    replace B6 := D; clear D
    replace B6 := B6.congr (cs' := itemV 3 0 0 nilH) rfl
    refine wl_y (y_assign rfl) rfl ?_
    refine wl_y (y_assign rfl) rfl ?_
    refine wl_nil ?_
    refine wq_then_norm (hK11 ?_)
    refine wc_ret ?_
    refine wq_then_ret ?_
    refine wq_blk_ret ?_
    refine wq_then_ret ?_
    refine hret rfl rfl rfl B6 rfl ?_
    have e : flagAt b at_ = (0, at_, 4) := by unfold flagAt; rw [if_pos (by omega)]
    rw [e]
    exact ⟨rfl, (F.drop (by omega)).drop (by omega) |>.toExt (by simp)⟩
  · skip
    refine wc_skip ?_
    refine wq_then_norm (hK9 ?_)
    refine wc_seq ?_; intro K12 hK12
    refine wc_seq ?_; intro K13 hK13
    have hlt : at_ < n := by omega
    obtain ⟨b0, o0, rfl, _, _⟩ := KA.out.get hlt
    have hx8 := UInt8.toNat_lt (b.getD at_ 0)
    refine wc_region ?_
    refine wl_y (y_move rfl) rfl ?_
    refine wl_y (y_move rfl) rfl ?_
    refine wl_y (y_ixs1 rfl rfl Tryz.underlying22 (by kernel_rfl) (j := at_) rfl (by omega)) rfl ?_
    refine wl_y (y_load1 rfl Tryz.underlying5 rfl (KA.out.cellN hlt)) rfl ?_
    refine wl_y (y_gtr rfl rfl) rfl ?_
    refine wl_nil ?_
    refine wq_then_norm (hK13 ?_)
    refine wc_dec rfl (fun hc12 => ?_) (fun hc12 => ?_)
    · skip
      refine wc_seq ?_; intro K14 hK14
      refine wc_region ?_
      refine wl_y (y_loadx (o := 0) (s := 5) rfl Tryz.underlying147 rfl (by kernel_rfl) B9 rfl) rfl ?_
      refine wl_y (y_move rfl) rfl ?_
      refine wl_ef (ef_storeP (o := 0) rfl rfl (by kernel_rfl) B6 (Nat.le_of_ble_eq_true rfl) (all_ones rfl)) rfl ?_
      rintro _ wS34_2 ⟨rfl, D, cg⟩
      have ex := Chs.one cg
      clear cg
      replace F := F.chs ex
      replace KA := KA.chs ex
      replace B5 := B5.chs ex
      replace B9 := B9.chs ex
      replace B6 := D; clear D
      replace B6 := B6.congr (cs' := itemV 3 0 0 nilH) rfl
      refine wl_y (y_assign rfl) rfl ?_
      refine wl_y (y_assign rfl) rfl ?_
      refine wl_nil ?_
      refine wq_then_norm (hK14 ?_)
      refine wc_ret ?_
      refine wq_then_ret ?_
      refine wq_blk_ret ?_
      refine wq_then_ret ?_
      refine hret rfl rfl rfl B6 rfl ?_
      have e : flagAt b at_ = (0, at_, 3) := by unfold flagAt; rw [if_neg (by omega), if_pos (by omega)]
      rw [e]
      exact ⟨rfl, (F.drop (by omega)).drop (by omega) |>.toExt (by simp)⟩
    · skip
      refine wc_skip ?_
      refine wq_then_norm (hK12 ?_)
      refine wc_seq ?_; intro K15 hK15
      refine wc_region ?_
      refine wl_y (y_move rfl) rfl ?_
      refine wl_y (y_move rfl) rfl ?_
      refine wl_y (y_ixs1 rfl rfl Tryz.underlying22 (by kernel_rfl) (j := at_) rfl (by omega)) rfl ?_
      refine wl_y (y_load1 rfl Tryz.underlying5 rfl (KA.out.cellN hlt)) rfl ?_
      refine wl_y (y_conv rfl Tryz.underlying5 Tryz.underlying53 (IntWalk.u64_in _ ⟨by omega, by omega⟩)) rfl ?_
      refine wl_y (y_fieldAddr (o := 2) (s := 1) (off := 0) (o' := 2) rfl Tryz.underlying147 rfl (by kernel_rfl) rfl rfl) rfl ?_
      refine wl_ef (ef_storeB (i := 2) rfl rfl rfl (by kernel_rfl) B9 (Nat.le_of_ble_eq_true rfl)) rfl ?_
      rintro _ wS35_6 ⟨rfl, D, cg⟩
      have ex := Chs.one cg
      clear cg
      replace F := F.chs ex
      replace KA := KA.chs ex
      replace B5 := B5.chs ex
      replace B6 := B6.chs ex
      replace B9 := D; clear D
      replace B9 := B9.congr (itemV_set (n' := (b.getD at_ 0).toNat) rfl)
      refine wl_nil ?_
      refine wq_then_norm (hK15 ?_)
      refine wc_seq ?_; intro K16 hK16
      refine wc_region ?_
      refine wl_y (y_loadx (o := 0) (s := 5) rfl Tryz.underlying147 rfl (by kernel_rfl) B9 rfl) rfl ?_
      refine wl_y (y_move rfl) rfl ?_
      refine wl_y (y_add rfl rfl (i64_ok (by omega) (by omega))) rfl ?_
      refine wl_ef (ef_storeP (o := 0) rfl rfl (by kernel_rfl) B6 (Nat.le_of_ble_eq_true rfl) (all_ones rfl)) rfl ?_
      rintro _ wS36_3 ⟨rfl, D, cg⟩
      have ex := Chs.one cg
      clear cg
      replace F := F.chs ex
      replace KA := KA.chs ex
      replace B5 := B5.chs ex
      replace B9 := B9.chs ex
      replace B6 := D; clear D
      replace B6 := B6.congr (cs' := itemV 3 0 (b.getD at_ 0).toNat nilH) rfl
      refine wl_y (y_assign rfl) rfl ?_
      refine wl_y (y_assign rfl) rfl ?_
      refine wl_nil ?_
      refine wq_then_norm (hK16 ?_)
      refine wc_ret ?_
      refine wq_blk_ret ?_
      refine wq_then_ret ?_
      refine hret rfl rfl rfl B6 rfl ?_
      have e : flagAt b at_ = ((b.getD at_ 0).toNat, at_ + 1, 0) := by unfold flagAt; rw [if_neg (by omega), if_neg (by omega)]
      rw [e]
      exact ⟨rfl, (F.drop (by omega)).drop (by omega) |>.toExt (by simp)⟩
theorem vecX_err {s : St} {c : Nat} (h : (vecX s).2 = .error c) : (vecX s).1 = [] := by
  cases s with
  | error c => rfl
  | ok xs =>
    rw [vecX_ok] at h ⊢
    cases hp : pVec xs with
    | error c => rfl
    | ok p => rw [hp] at h; cases h
theorem vecAt_code (b : List UInt8) (at_ : Nat) : (vecAt b at_).2.2 < 256 := by
  cases hp : pVec (b.drop at_) with
  | error z => rw [vecAt_err hp]; exact (pVec_err hp).2
  | ok p => rw [vecAt_ok (v := p.1) (r := p.2) hp]; exact (by omega : 0 < 256)
theorem numAt_st {k at_ : Nat} {b : List UInt8} (hat : at_ ≤ b.length) : (numX k (.ok (b.drop at_))).1 = (numAt k b at_).1 ∧ ((numAt k b at_).2.2 = 0 → (numX k (.ok (b.drop at_))).2 = .ok (b.drop (numAt k b at_).2.1) ∧ (numAt k b at_).2.1 ≤ b.length) ∧ ((numAt k b at_).2.2 ≠ 0 → numX k (.ok (b.drop at_)) = (0, .error (numAt k b at_).2.2) ∧ (numAt k b at_).2.2 < 256) := by
  unfold numAt
  rw [numX_ok]
  by_cases h : (b.drop at_).length < k
  · rw [if_pos h, if_pos h]
    exact ⟨rfl, fun h => absurd h (show ¬ (4 : Nat) = 0 by decide), fun _ => ⟨rfl, show 4 < 256 by omega⟩⟩
  · rw [if_neg h, if_neg h]
    rw [List.length_drop] at h
    exact ⟨rfl, fun _ => ⟨by rw [List.drop_drop], by show at_ + k ≤ b.length; omega⟩, fun h => absurd rfl h⟩
theorem flagAt_st {at_ : Nat} {b : List UInt8} (hat : at_ ≤ b.length) : ((flagAt b at_).2.2 = 0 → flagX (.ok (b.drop at_)) = (decide ((flagAt b at_).1 = 1), .ok (b.drop (flagAt b at_).2.1)) ∧ (flagAt b at_).2.1 ≤ b.length) ∧ ((flagAt b at_).2.2 ≠ 0 → flagX (.ok (b.drop at_)) = (false, .error (flagAt b at_).2.2) ∧ (flagAt b at_).2.2 < 256) := by
  unfold flagAt
  by_cases h : b.length ≤ at_
  · rw [if_pos h]
    refine ⟨fun h => absurd h (show ¬ (4 : Nat) = 0 by decide), fun _ => ⟨?_, show 4 < 256 by omega⟩⟩
    unfold flagX
    rw [numX1_end h]
  · rw [if_neg h]
    have e : flagX (.ok (b.drop at_)) = if 1 < (b.getD at_ 0).toNat then (false, .error 3) else (decide ((b.getD at_ 0).toNat = 1), .ok (b.drop (at_ + 1))) := by
      unfold flagX
      rw [numX1_at (by omega)]
    by_cases h1 : 1 < (b.getD at_ 0).toNat
    · rw [if_pos h1] at e ⊢
      exact ⟨fun h => absurd h (show ¬ (3 : Nat) = 0 by decide), fun _ => ⟨e, show 3 < 256 by omega⟩⟩
    · rw [if_neg h1] at e ⊢
      exact ⟨fun _ => ⟨e, by show at_ + 1 ≤ b.length; omega⟩, fun h => absurd rfl h⟩
/-- A place: bytes that are a part of given ones, where it stands, and its error. -/
def placeV (A : Option Addr) (n c at_ e : Nat) : Array Value := #[.slice A n c, .int .i64 (at_ : Int), .int .i64 (e : Int)]
def PlS (A0 : Option Addr) (n0 : Nat) (b0 : List UInt8) (cs : Array Value) (s : St) : Prop :=
  ∃ A n c at_ e b, cs = placeV A n c at_ e ∧ n ≤ c ∧ n ≤ 1000000 ∧ Sub A0 n0 b0 A n b ∧ b.length = n ∧ ((e = 0 ∧ s = .ok (b.drop at_) ∧ at_ ≤ n) ∨ (e ≠ 0 ∧ e < 256 ∧ s = .error e))
theorem placeV_set {A : Option Addr} {n c at_ e e' : Nat} {q : Int} (hq : q = (e' : Int)) : (placeV A n c at_ e).setIfInBounds 2 (.int .i64 q) = placeV A n c at_ e' := by subst hq; rfl
section
variable {A0 : Option Addr} {n0 : Nat} {b0 : List UInt8} {cs : Array Value} {s : St}
theorem PlS.whole {c0 : Nat} (hc : n0 ≤ c0) (hn : n0 ≤ 1000000) (hl : b0.length = n0) : PlS A0 n0 b0 (placeV A0 n0 c0 0 0) (.ok b0) := ⟨A0, n0, c0, 0, 0, b0, rfl, hc, hn, fun _ h => h, hl, .inl ⟨rfl, by simp, Nat.zero_le _⟩⟩
theorem PlS.inner {h : Hd} {v : List UInt8} (hs : Sub A0 n0 b0 h.A h.n v) (hc : h.n ≤ h.c) (hn : h.n ≤ 1000000) (hl : v.length = h.n) : PlS A0 n0 b0 (placeV h.A h.n h.c 0 0) (.ok v) := ⟨h.A, h.n, h.c, 0, 0, v, rfl, hc, hn, hs, hl, .inl ⟨rfl, by simp, Nat.zero_le _⟩⟩
theorem plnum_any (k : Nat) (z : Int) (hz : z = (k : Int)) (w : World) (HA : Bs w A0 n0 b0) (H : PlS A0 n0 b0 cs s) (hk : k = 1 ∨ k = 2 ∨ k = 4 ∨ k = 8) :
    Calls Tryz.prog 56 #[.agg cs, .int .i64 z] w fun r w' => ∃ cs', r = .returned (.tuple #[.int .u64 (((numX k s).1 : Nat) : Int), .agg cs']) ∧ PlS A0 n0 b0 cs' (numX k s).2 ∧ Ext w w' := by
  subst hz
  have F := Chs.refl [] w
  have KA : Kp w.heap.size [] (fun w => Bs w A0 n0 b0) w := Kp.bs HA (by simp)
  obtain ⟨A, n, c, at_, e, b, rfl, hc, hn, hS, hl, hs⟩ := H
  refine vc_entertc (s := 3) 38 Tryz.func56 rfl rfl rfl Tryz.underlying85 rfl (by kernel_rfl) rfl ?_
  intro Q hret
  refine wc_seq ?_; intro K1 hK1
  refine wc_region ?_
  refine wl_ef (ef_box rfl rfl) rfl ?_
  rintro _ wB2 ⟨gB2, rfl, B2, hgB2, ex⟩
  have lB2 := B2.lt; have zB2 := ex.size
  replace F := F.ext ex
  replace KA := KA.ext ex
  refine wl_y (y_assign rfl) rfl ?_
  refine wl_ef (ef_alloc (Z := #[.slice none 0 0, .int .i64 0, .int .i64 0]) (by kernel_rfl)) rfl ?_
  rintro _ wB5 ⟨gB5, rfl, B5, hgB5, ex⟩
  have lB5 := B5.lt; have zB5 := ex.size
  replace F := F.grow ex hgB5
  replace KA := KA.grow ex hgB5
  replace B2 := B2.grow ex hgB5
  refine wl_nil ?_
  refine wq_then_norm (hK1 ?_)
  refine wc_seq ?_; intro K2 hK2
  refine wc_seq ?_; intro K3 hK3
  refine wc_region ?_
  refine wl_y (y_fieldAddr (o := 2) (s := 1) (off := 0) (o' := 2) rfl Tryz.underlying85 rfl (by kernel_rfl) rfl rfl) rfl ?_
  refine wl_y (y_load1 rfl Tryz.underlying3 rfl (B2.get (i := 2) rfl)) rfl ?_
  refine wl_y (y_neq rfl rfl) rfl ?_
  refine wl_nil ?_
  refine wq_then_norm (hK3 ?_)
  refine wc_dec rfl (fun hc1 => ?_) (fun hc1 => ?_)
  · skip
    refine wc_seq ?_; intro K4 hK4
    refine wc_drawJ [(2, [gB5])] (by kernel_rfl) 3 rfl ?_; intro wd2 ex hd2
    replace F := F.ext ex
    replace KA := KA.ext ex
    replace B2 := B2.ext ex
    replace B5 := B5.ext ex
    refine wj_y 0 [] rfl (by kernel_rfl) (fun wr (cr : Chs ([]) _ wr) => y_loadx (o := 0) (s := 3) rfl Tryz.underlying85 rfl (by kernel_rfl) (B2.chs cr) rfl) rfl ?_
    refine wj_y 1 [] rfl (by kernel_rfl) (fun wr (cr : Chs ([]) _ wr) => y_assign rfl) rfl ?_
    refine wj_one 2 (by kernel_rfl) ?_; refine oj_ef rfl (ef_storeP (o := 0) rfl rfl (by kernel_rfl) B5 (Nat.le_of_ble_eq_true rfl) (all_ones rfl)) rfl ?_
    rintro _ wS2_2 ⟨rfl, D, cg⟩
    have ex := Chs.one cg
    clear cg
    refine ⟨ex, ?_⟩
    replace F := F.chs ex
    replace KA := KA.chs ex
    replace B2 := B2.chs ex
    replace B5 := D; clear D
    replace B5 := B5.congr (cs' := placeV A n c at_ e) rfl
    refine wj_done (by kernel_rfl) ?_
    refine wq_nop ?_
    refine wq_then_norm (hK4 ?_)
    refine wc_ret ?_
    refine wq_then_ret ?_
    refine hret rfl rfl B5 rfl ?_
    obtain ⟨h, _⟩ | ⟨h0, h8, rfl⟩ := hs
    · exact absurd h (by omega)
    · exact ⟨_, rfl, ⟨A, n, c, at_, e, b, rfl, hc, hn, hS, hl, .inr ⟨h0, h8, rfl⟩⟩, F.drop (by omega) |>.toExt (by simp)⟩
  · skip
    refine wc_skip ?_
    refine wq_then_norm (hK2 ?_)
    refine wc_seq ?_; intro K5 hK5
    obtain ⟨h0, rfl, hat⟩ : e = 0 ∧ s = .ok (b.drop at_) ∧ at_ ≤ n := by
      rcases hs with h | h
      · exact h
      · exact absurd h.1 (by omega)
    subst h0
    obtain ⟨q1, q2, q3⟩ := numAt_st (k := k) (b := b) (at_ := at_) (by omega)
    refine wc_region ?_
    refine wl_y (y_fieldAddr (o := 0) (s := 1) (off := 0) (o' := 0) rfl Tryz.underlying85 rfl (by kernel_rfl) rfl rfl) rfl ?_
    refine wl_y (y_load1 rfl Tryz.underlying22 rfl (B2.get (i := 0) rfl)) rfl ?_
    refine wl_y (y_fieldAddr (o := 1) (s := 1) (off := 0) (o' := 1) rfl Tryz.underlying85 rfl (by kernel_rfl) rfl rfl) rfl ?_
    refine wl_y (y_load1 rfl Tryz.underlying3 rfl (B2.get (i := 1) rfl)) rfl ?_
    refine wl_y (y_move rfl) rfl ?_
    refine wl_y (y_build rfl (cells := itemV 0 (k : Int) 0 nilH) (by kernel_rfl)) rfl ?_
    refine wl_call Tryz.func106 rfl rfl rfl (rtakeN_any k _ rfl _ (hS _ KA.out) hn hat hk) rfl ?_
    rintro e w1 ⟨rfl, ex⟩
    refine ⟨_, rfl, ?_⟩
    replace F := F.ext ex
    replace KA := KA.ext ex
    replace B2 := B2.ext ex
    replace B5 := B5.ext ex
    skip
    refine wl_y (y_move rfl) rfl ?_
    refine wl_y (y_extract rfl rfl) rfl ?_
    refine wl_y (y_extract rfl rfl) rfl ?_
    refine wl_y (y_extract rfl rfl) rfl ?_
    refine wl_ef (ef_alloc (Z := #[.int .i64 0, .int .i64 0, .int .u64 0, .slice none 0 0, .slice none 0 0]) (by kernel_rfl)) rfl ?_
    rintro _ wB6 ⟨gB6, rfl, B6, hgB6, ex⟩
    have lB6 := B6.lt; have zB6 := ex.size
    have nB5_6 : gB5 < gB6 := Nat.lt_of_lt_of_le B5.lt hgB6
    replace F := F.grow ex hgB6
    replace KA := KA.grow ex hgB6
    replace B2 := B2.grow ex hgB6
    replace B5 := B5.grow ex hgB6
    refine wl_ef (ef_storeP (o := 0) rfl rfl (by kernel_rfl) B6 (Nat.le_of_ble_eq_true rfl) (all_ones rfl)) rfl ?_
    rintro _ wS3_12 ⟨rfl, D, cg⟩
    have ex := Chs.one cg
    clear cg
    replace F := F.chs ex
    replace KA := KA.chs ex
    replace B2 := B2.chs ex
    replace B5 := B5.chs ex
    replace B6 := D; clear D
    replace B6 := B6.congr (cs' := itemV 0 (k : Int) (numAt k b at_).1 nilH) rfl
    refine wl_y (y_assign rfl) rfl ?_
    refine wl_y (y_assign rfl) rfl ?_
    refine wl_nil ?_
    refine wq_then_norm (hK5 ?_)
    refine wc_seq ?_; intro K6 hK6
    refine wc_seq ?_; intro K7 hK7
    refine wc_region ?_
    refine wl_y (y_move rfl) rfl ?_
    refine wl_y (y_neq rfl rfl) rfl ?_
    refine wl_nil ?_
    refine wq_then_norm (hK7 ?_)
    refine wc_dec rfl (fun hc2 => ?_) (fun hc2 => ?_)
    · skip
      refine wc_seq ?_; intro K8 hK8
      refine wc_drawJ [(7, [gB5])] (by kernel_rfl) 8 rfl ?_; intro wd5 ex hd5
      replace F := F.ext ex
      replace KA := KA.ext ex
      replace B2 := B2.ext ex
      replace B5 := B5.ext ex
      replace B6 := B6.ext ex
      refine wj_y 0 [] rfl (by kernel_rfl) (fun wr (cr : Chs ([]) _ wr) => y_fieldAddr (o := 0) (s := 1) (off := 0) (o' := 0) rfl Tryz.underlying85 rfl (by kernel_rfl) rfl rfl) rfl ?_
      refine wj_y 1 [] rfl (by kernel_rfl) (fun wr (cr : Chs ([]) _ wr) => y_load1 rfl Tryz.underlying22 rfl ((B2.chs cr).get (i := 0) rfl)) rfl ?_
      refine wj_y 2 [] rfl (by kernel_rfl) (fun wr (cr : Chs ([]) _ wr) => y_fieldAddr (o := 1) (s := 1) (off := 0) (o' := 1) rfl Tryz.underlying85 rfl (by kernel_rfl) rfl rfl) rfl ?_
      refine wj_y 3 [] rfl (by kernel_rfl) (fun wr (cr : Chs ([]) _ wr) => y_load1 rfl Tryz.underlying3 rfl ((B2.chs cr).get (i := 1) rfl)) rfl ?_
      refine wj_y 4 [] rfl (by kernel_rfl) (fun wr (cr : Chs ([]) _ wr) => y_move rfl) rfl ?_
      refine wj_y 5 [] rfl (by kernel_rfl) (fun wr (cr : Chs ([]) _ wr) => y_build rfl (cells := placeV A n c at_ (numAt k b at_).2.2) (by kernel_rfl)) rfl ?_
      refine wj_y 6 [] rfl (by kernel_rfl) (fun wr (cr : Chs ([]) _ wr) => y_assign rfl) rfl ?_
      refine wj_one 7 (by kernel_rfl) ?_; refine oj_ef rfl (ef_storeP (o := 0) rfl rfl (by kernel_rfl) B5 (Nat.le_of_ble_eq_true rfl) (all_ones rfl)) rfl ?_
      rintro _ wS5_7 ⟨rfl, D, cg⟩
      have ex := Chs.one cg
      clear cg
      refine ⟨ex, ?_⟩
      replace F := F.chs ex
      replace KA := KA.chs ex
      replace B2 := B2.chs ex
      replace B6 := B6.chs ex
      replace B5 := D; clear D
      replace B5 := B5.congr (cs' := placeV A n c at_ (numAt k b at_).2.2) rfl
      refine wj_done (by kernel_rfl) ?_
      refine wq_nop ?_
      refine wq_then_norm (hK8 ?_)
      refine wc_ret ?_
      refine wq_then_ret ?_
      refine hret rfl rfl B5 rfl ?_
      obtain ⟨e1, h8⟩ := q3 (by omega)
      rw [e1]
      exact ⟨_, rfl, ⟨A, n, c, at_, _, b, rfl, hc, hn, hS, hl, .inr ⟨by omega, h8, rfl⟩⟩, (F.drop (by omega)).drop (by omega) |>.toExt (by simp)⟩
    · skip
      refine wc_skip ?_
      refine wq_then_norm (hK6 ?_)
      refine wc_seq ?_; intro K9 hK9
      refine wc_drawJ [(7, [gB5])] (by kernel_rfl) 8 rfl ?_; intro wd6 ex hd6
      replace F := F.ext ex
      replace KA := KA.ext ex
      replace B2 := B2.ext ex
      replace B5 := B5.ext ex
      replace B6 := B6.ext ex
      refine wj_y 0 [] rfl (by kernel_rfl) (fun wr (cr : Chs ([]) _ wr) => y_fieldAddr (o := 2) (s := 1) (off := 0) (o' := 2) rfl Tryz.underlying147 rfl (by kernel_rfl) rfl rfl) rfl ?_
      refine wj_y 1 [] rfl (by kernel_rfl) (fun wr (cr : Chs ([]) _ wr) => y_load1 rfl Tryz.underlying53 rfl ((B6.chs cr).get (i := 2) rfl)) rfl ?_
      refine wj_y 2 [] rfl (by kernel_rfl) (fun wr (cr : Chs ([]) _ wr) => y_fieldAddr (o := 0) (s := 1) (off := 0) (o' := 0) rfl Tryz.underlying85 rfl (by kernel_rfl) rfl rfl) rfl ?_
      refine wj_y 3 [] rfl (by kernel_rfl) (fun wr (cr : Chs ([]) _ wr) => y_load1 rfl Tryz.underlying22 rfl ((B2.chs cr).get (i := 0) rfl)) rfl ?_
      refine wj_y 4 [] rfl (by kernel_rfl) (fun wr (cr : Chs ([]) _ wr) => y_move rfl) rfl ?_
      refine wj_y 5 [] rfl (by kernel_rfl) (fun wr (cr : Chs ([]) _ wr) => y_build rfl (cells := placeV A n c (numAt k b at_).2.1 0) (by kernel_rfl)) rfl ?_
      refine wj_y 6 [] rfl (by kernel_rfl) (fun wr (cr : Chs ([]) _ wr) => y_assign rfl) rfl ?_
      refine wj_one 7 (by kernel_rfl) ?_; refine oj_ef rfl (ef_storeP (o := 0) rfl rfl (by kernel_rfl) B5 (Nat.le_of_ble_eq_true rfl) (all_ones rfl)) rfl ?_
      rintro _ wS6_7 ⟨rfl, D, cg⟩
      have ex := Chs.one cg
      clear cg
      refine ⟨ex, ?_⟩
      replace F := F.chs ex
      replace KA := KA.chs ex
      replace B2 := B2.chs ex
      replace B6 := B6.chs ex
      replace B5 := D; clear D
      replace B5 := B5.congr (cs' := placeV A n c (numAt k b at_).2.1 0) rfl
      refine wj_done (by kernel_rfl) ?_
      refine wq_nop ?_
      refine wq_then_norm (hK9 ?_)
      refine wc_ret ?_
      refine hret rfl rfl B5 rfl ?_
      obtain ⟨e1, hle⟩ := q2 (by omega)
      rw [q1, e1]
      exact ⟨_, rfl, ⟨A, n, c, _, 0, b, rfl, hc, hn, hS, hl, .inl ⟨rfl, rfl, by omega⟩⟩, (F.drop (by omega)).drop (by omega) |>.toExt (by simp)⟩
theorem pljust_any (k m : Nat) (z u : Int) (hz : z = (k : Int)) (hu : u = (m : Int)) (w : World) (HA : Bs w A0 n0 b0) (H : PlS A0 n0 b0 cs s) (hk : k = 1 ∨ k = 2 ∨ k = 4 ∨ k = 8) :
    Calls Tryz.prog 54 #[.agg cs, .int .i64 z, .int .u64 u] w fun r w' => ∃ cs', r = .returned (.agg cs') ∧ PlS A0 n0 b0 cs' (justX k m s) ∧ Ext w w' := by
  have F := Chs.refl [] w
  have KA : Kp w.heap.size [] (fun w => Bs w A0 n0 b0) w := Kp.bs HA (by simp)
  have H0 := H
  obtain ⟨A, n, c, at_, e, b, rfl, _⟩ := H
  refine vc_enterc1 (s := 3) 25 Tryz.func54 rfl rfl rfl Tryz.underlying85 rfl (by kernel_rfl) rfl ?_
  intro Q hret
  refine wc_seq ?_; intro K1 hK1
  refine wc_region ?_
  refine wl_ef (ef_box rfl rfl) rfl ?_
  rintro _ wB3 ⟨gB3, rfl, B3, hgB3, ex⟩
  have lB3 := B3.lt; have zB3 := ex.size
  replace F := F.ext ex
  replace KA := KA.ext ex
  refine wl_ef (ef_alloc (Z := #[.slice none 0 0, .int .i64 0, .int .i64 0]) (by kernel_rfl)) rfl ?_
  rintro _ wB6 ⟨gB6, rfl, B6, hgB6, ex⟩
  have lB6 := B6.lt; have zB6 := ex.size
  replace F := F.grow ex hgB6
  replace KA := KA.grow ex hgB6
  replace B3 := B3.grow ex hgB6
  refine wl_nil ?_
  refine wq_then_norm (hK1 ?_)
  refine wc_seq ?_; intro K2 hK2
  refine wc_region ?_
  refine wl_y (y_loadx (o := 0) (s := 3) rfl Tryz.underlying85 rfl (by kernel_rfl) B3 rfl) rfl ?_
  refine wl_y (y_move rfl) rfl ?_
  refine wl_call Tryz.func56 rfl rfl rfl (plnum_any k z hz _ KA.out H0 hk) rfl ?_
  rintro e w1 ⟨cs1, rfl, P1, ex⟩
  refine ⟨_, rfl, ?_⟩
  replace F := F.ext ex
  replace KA := KA.ext ex
  replace B3 := B3.ext ex
  replace B6 := B6.ext ex
  obtain ⟨A', n', c', at', e', b', rfl, hc, hn, hS, hl, hs⟩ := P1
  refine wl_y (y_move rfl) rfl ?_
  refine wl_y (y_extract rfl rfl) rfl ?_
  refine wl_y (y_extract rfl rfl) rfl ?_
  refine wl_ef (ef_alloc (Z := #[.slice none 0 0, .int .i64 0, .int .i64 0]) (by kernel_rfl)) rfl ?_
  rintro _ wB8 ⟨gB8, rfl, B8, hgB8, ex⟩
  have lB8 := B8.lt; have zB8 := ex.size
  have nB6_8 : gB6 < gB8 := Nat.lt_of_lt_of_le B6.lt hgB8
  replace F := F.grow ex hgB8
  replace KA := KA.grow ex hgB8
  replace B3 := B3.grow ex hgB8
  replace B6 := B6.grow ex hgB8
  refine wl_y (y_assign rfl) rfl ?_
  refine wl_ef (ef_storeP (o := 0) rfl rfl (by kernel_rfl) B8 (Nat.le_of_ble_eq_true rfl) (all_ones rfl)) rfl ?_
  rintro _ wS1_8 ⟨rfl, D, cg⟩
  have ex := Chs.one cg
  clear cg
  replace F := F.chs ex
  replace KA := KA.chs ex
  replace B3 := B3.chs ex
  replace B6 := B6.chs ex
  replace B8 := D; clear D
  replace B8 := B8.congr (cs' := placeV A' n' c' at' e') rfl
  refine wl_nil ?_
  refine wq_then_norm (hK2 ?_)
  refine wc_seq ?_; intro K3 hK3
  refine wc_seq ?_; intro K4 hK4
  refine wc_region ?_
  refine wl_y (y_fieldAddr (o := 2) (s := 1) (off := 0) (o' := 2) rfl Tryz.underlying85 rfl (by kernel_rfl) rfl rfl) rfl ?_
  refine wl_y (y_load1 rfl Tryz.underlying3 rfl (B8.get (i := 2) rfl)) rfl ?_
  refine wl_yask (y_eql rfl rfl) rfl (fun he => ?_) (fun he => ?_)
  · skip
    refine wl_y (y_move rfl) rfl ?_
    refine wl_gy 18 rfl rfl (y_move rfl) rfl ?_
    refine wl_gy 18 rfl rfl (y_move rfl) rfl ?_
    refine wl_gy 18 rfl rfl (y_neq rfl rfl) rfl ?_
    refine wl_y (y_pickt rfl rfl) rfl ?_
    refine wl_nil ?_
    refine wq_then_norm (hK4 ?_)
    refine wc_dec rfl (fun hc1 => ?_) (fun hc1 => ?_)
    · skip
      obtain ⟨_, hs, hat⟩ : e' = 0 ∧ (numX k s).2 = .ok (b'.drop at') ∧ at' ≤ n' := by
        rcases hs with h | h
        · exact h
        · exact absurd h.1 (by omega)
      refine wc_region ?_
      refine wl_y (y_fieldAddr (o := 2) (s := 1) (off := 0) (o' := 2) rfl Tryz.underlying85 rfl (by kernel_rfl) rfl rfl) rfl ?_
      refine wl_ef (ef_storeB (i := 2) rfl rfl rfl (by kernel_rfl) B8 (Nat.le_of_ble_eq_true rfl)) rfl ?_
      rintro _ wS3_1 ⟨rfl, D, cg⟩
      have ex := Chs.one cg
      clear cg
      replace F := F.chs ex
      replace KA := KA.chs ex
      replace B3 := B3.chs ex
      replace B6 := B6.chs ex
      replace B8 := D; clear D
      replace B8 := B8.congr (placeV_set (e' := 3) rfl)
      refine wl_nil ?_
      refine wq_then_norm (hK3 ?_)
      refine wc_seq ?_; intro K5 hK5
      refine wc_region ?_
      refine wl_y (y_loadx (o := 0) (s := 3) rfl Tryz.underlying85 rfl (by kernel_rfl) B8 rfl) rfl ?_
      refine wl_ef (ef_storeP (o := 0) rfl rfl (by kernel_rfl) B6 (Nat.le_of_ble_eq_true rfl) (all_ones rfl)) rfl ?_
      rintro _ wS4_1 ⟨rfl, D, cg⟩
      have ex := Chs.one cg
      clear cg
      replace F := F.chs ex
      replace KA := KA.chs ex
      replace B3 := B3.chs ex
      replace B8 := B8.chs ex
      replace B6 := D; clear D
      replace B6 := B6.congr (cs' := placeV A' n' c' at' 3) rfl
      refine wl_nil ?_
      refine wq_then_norm (hK5 ?_)
      refine wc_ret ?_
      refine hret rfl B6 rfl ?_
      rw [just_ne (by omega), hs]
      exact ⟨_, rfl, ⟨A', n', c', at', 3, b', rfl, hc, hn, hS, hl, .inr ⟨by omega, by omega, rfl⟩⟩, (F.drop (by omega)).drop (by omega) |>.toExt (by simp)⟩
    · skip
      obtain ⟨_, hs, hat⟩ : e' = 0 ∧ (numX k s).2 = .ok (b'.drop at') ∧ at' ≤ n' := by
        rcases hs with h | h
        · exact h
        · exact absurd h.1 (by omega)
      refine wc_skip ?_
      refine wq_then_norm (hK3 ?_)
      refine wc_seq ?_; intro K6 hK6
      refine wc_region ?_
      refine wl_y (y_loadx (o := 0) (s := 3) rfl Tryz.underlying85 rfl (by kernel_rfl) B8 rfl) rfl ?_
      refine wl_ef (ef_storeP (o := 0) rfl rfl (by kernel_rfl) B6 (Nat.le_of_ble_eq_true rfl) (all_ones rfl)) rfl ?_
      rintro _ wS4_1 ⟨rfl, D, cg⟩
      have ex := Chs.one cg
      clear cg
      replace F := F.chs ex
      replace KA := KA.chs ex
      replace B3 := B3.chs ex
      replace B8 := B8.chs ex
      replace B6 := D; clear D
      replace B6 := B6.congr (cs' := placeV A' n' c' at' e') rfl
      refine wl_nil ?_
      refine wq_then_norm (hK6 ?_)
      refine wc_ret ?_
      refine hret rfl B6 rfl ?_
      rw [just_eq (by omega), hs]
      exact ⟨_, rfl, ⟨A', n', c', at', e', b', rfl, hc, hn, hS, hl, .inl ⟨by omega, rfl, hat⟩⟩, (F.drop (by omega)).drop (by omega) |>.toExt (by simp)⟩
  · skip
    refine wl_y (y_move rfl) rfl ?_
    refine wl_gno 18 rfl rfl rfl rfl ?_
    refine wl_gno 18 rfl rfl rfl rfl ?_
    refine wl_gno 18 rfl rfl rfl rfl ?_
    refine wl_y (y_pickf rfl rfl) rfl ?_
    refine wl_nil ?_
    refine wq_then_norm (hK4 ?_)
    refine wc_false rfl rfl ?_
    refine wc_skip ?_
    refine wq_then_norm (hK3 ?_)
    refine wc_seq ?_; intro K7 hK7
    refine wc_region ?_
    refine wl_y (y_loadx (o := 0) (s := 3) rfl Tryz.underlying85 rfl (by kernel_rfl) B8 rfl) rfl ?_
    refine wl_ef (ef_storeP (o := 0) rfl rfl (by kernel_rfl) B6 (Nat.le_of_ble_eq_true rfl) (all_ones rfl)) rfl ?_
    rintro _ wS4_1 ⟨rfl, D, cg⟩
    have ex := Chs.one cg
    clear cg
    replace F := F.chs ex
    replace KA := KA.chs ex
    replace B3 := B3.chs ex
    replace B8 := B8.chs ex
    replace B6 := D; clear D
    replace B6 := B6.congr (cs' := placeV A' n' c' at' e') rfl
    refine wl_nil ?_
    refine wq_then_norm (hK7 ?_)
    refine wc_ret ?_
    refine hret rfl B6 rfl ?_
    obtain ⟨h, _⟩ | ⟨h0, h8, hs⟩ := hs
    · exact absurd h (by omega)
    · have ej : justX k m s = .error e' := by unfold justX; rw [hs]
      rw [ej]
      exact ⟨_, rfl, ⟨A', n', c', at', e', b', rfl, hc, hn, hS, hl, .inr ⟨h0, h8, rfl⟩⟩, (F.drop (by omega)).drop (by omega) |>.toExt (by simp)⟩
theorem plvec_any (w : World) (HA : Bs w A0 n0 b0) (H : PlS A0 n0 b0 cs s) :
    Calls Tryz.prog 55 #[.agg cs] w fun r w' => ∃ (h : Hd) (cs' : Array Value), r = .returned (.tuple #[.slice h.A h.n h.c, .agg cs']) ∧ Sub A0 n0 b0 h.A h.n (vecX s).1 ∧ (vecX s).1.length = h.n ∧ h.n ≤ h.c ∧ h.n ≤ 1000000 ∧ PlS A0 n0 b0 cs' (vecX s).2 ∧ Ext w w' := by
  have F := Chs.refl [] w
  have KA : Kp w.heap.size [] (fun w => Bs w A0 n0 b0) w := Kp.bs HA (by simp)
  obtain ⟨A, n, c, at_, e, b, rfl, hc, hn, hS, hl, hs⟩ := H
  refine vc_entertc (s := 3) 35 Tryz.func55 rfl rfl rfl Tryz.underlying85 rfl (by kernel_rfl) rfl ?_
  intro Q hret
  refine wc_seq ?_; intro K1 hK1
  refine wc_region ?_
  refine wl_ef (ef_box rfl rfl) rfl ?_
  rintro _ wB1 ⟨gB1, rfl, B1, hgB1, ex⟩
  have lB1 := B1.lt; have zB1 := ex.size
  replace F := F.ext ex
  replace KA := KA.ext ex
  refine wl_y (y_assign rfl) rfl ?_
  refine wl_ef (ef_alloc (Z := #[.slice none 0 0, .int .i64 0, .int .i64 0]) (by kernel_rfl)) rfl ?_
  rintro _ wB3 ⟨gB3, rfl, B3, hgB3, ex⟩
  have lB3 := B3.lt; have zB3 := ex.size
  replace F := F.grow ex hgB3
  replace KA := KA.grow ex hgB3
  replace B1 := B1.grow ex hgB3
  refine wl_nil ?_
  refine wq_then_norm (hK1 ?_)
  refine wc_seq ?_; intro K2 hK2
  refine wc_seq ?_; intro K3 hK3
  refine wc_region ?_
  refine wl_y (y_fieldAddr (o := 2) (s := 1) (off := 0) (o' := 2) rfl Tryz.underlying85 rfl (by kernel_rfl) rfl rfl) rfl ?_
  refine wl_y (y_load1 rfl Tryz.underlying3 rfl (B1.get (i := 2) rfl)) rfl ?_
  refine wl_y (y_neq rfl rfl) rfl ?_
  refine wl_nil ?_
  refine wq_then_norm (hK3 ?_)
  refine wc_dec rfl (fun hc1 => ?_) (fun hc1 => ?_)
  · skip
    refine wc_seq ?_; intro K4 hK4
    refine wc_drawJ [(2, [gB3])] (by kernel_rfl) 3 rfl ?_; intro wd2 ex hd2
    replace F := F.ext ex
    replace KA := KA.ext ex
    replace B1 := B1.ext ex
    replace B3 := B3.ext ex
    refine wj_y 0 [] rfl (by kernel_rfl) (fun wr (cr : Chs ([]) _ wr) => y_loadx (o := 0) (s := 3) rfl Tryz.underlying85 rfl (by kernel_rfl) (B1.chs cr) rfl) rfl ?_
    refine wj_y 1 [] rfl (by kernel_rfl) (fun wr (cr : Chs ([]) _ wr) => y_assign rfl) rfl ?_
    refine wj_one 2 (by kernel_rfl) ?_; refine oj_ef rfl (ef_storeP (o := 0) rfl rfl (by kernel_rfl) B3 (Nat.le_of_ble_eq_true rfl) (all_ones rfl)) rfl ?_
    rintro _ wS2_2 ⟨rfl, D, cg⟩
    have ex := Chs.one cg
    clear cg
    refine ⟨ex, ?_⟩
    replace F := F.chs ex
    replace KA := KA.chs ex
    replace B1 := B1.chs ex
    replace B3 := D; clear D
    replace B3 := B3.congr (cs' := placeV A n c at_ e) rfl
    refine wj_done (by kernel_rfl) ?_
    refine wq_nop ?_
    refine wq_then_norm (hK4 ?_)
    refine wc_ret ?_
    refine wq_then_ret ?_
    refine hret rfl rfl B3 rfl ?_
    obtain ⟨h, _⟩ | ⟨h0, h8, rfl⟩ := hs
    · exact absurd h (by omega)
    · exact ⟨nilH, _, rfl, Sub.nil _ _ _, rfl, Nat.le_refl _, Nat.zero_le _, ⟨A, n, c, at_, e, b, rfl, hc, hn, hS, hl, .inr ⟨h0, h8, rfl⟩⟩, F.drop (by omega) |>.toExt (by simp)⟩
  · skip
    refine wc_skip ?_
    refine wq_then_norm (hK2 ?_)
    refine wc_seq ?_; intro K5 hK5
    obtain ⟨h0, rfl, hat⟩ : e = 0 ∧ s = .ok (b.drop at_) ∧ at_ ≤ n := by
      rcases hs with h | h
      · exact h
      · exact absurd h.1 (by omega)
    subst h0
    obtain ⟨q1, q2, q3⟩ := vecAt_st (b := b) (at_ := at_) (by omega)
    have hvl := (vecX_le (.ok (b.drop at_))).1
    have hsl : slen (.ok (b.drop at_)) = n - at_ := by show (b.drop at_).length = _; rw [List.length_drop, hl]
    refine wc_region ?_
    refine wl_y (y_fieldAddr (o := 0) (s := 1) (off := 0) (o' := 0) rfl Tryz.underlying85 rfl (by kernel_rfl) rfl rfl) rfl ?_
    refine wl_y (y_load1 rfl Tryz.underlying22 rfl (B1.get (i := 0) rfl)) rfl ?_
    refine wl_y (y_fieldAddr (o := 1) (s := 1) (off := 0) (o' := 1) rfl Tryz.underlying85 rfl (by kernel_rfl) rfl rfl) rfl ?_
    refine wl_y (y_load1 rfl Tryz.underlying3 rfl (B1.get (i := 1) rfl)) rfl ?_
    refine wl_y (y_build rfl (cells := itemV 1 0 0 nilH) (by kernel_rfl)) rfl ?_
    refine wl_call Tryz.func106 rfl rfl rfl (rtakeV_any _ (hS _ KA.out) hc hn hat) rfl ?_
    rintro e w1 ⟨h, rfl, hsub, hcap, ex⟩
    refine ⟨_, rfl, ?_⟩
    replace F := F.ext ex
    replace KA := KA.ext ex
    replace B1 := B1.ext ex
    replace B3 := B3.ext ex
    have hhl : (vecAt b at_).1.length = h.n := (hsub _ (hS _ KA.out)).1
    refine wl_y (y_move rfl) rfl ?_
    refine wl_y (y_extract rfl rfl) rfl ?_
    refine wl_y (y_extract rfl rfl) rfl ?_
    refine wl_y (y_extract rfl rfl) rfl ?_
    refine wl_ef (ef_alloc (Z := #[.int .i64 0, .int .i64 0, .int .u64 0, .slice none 0 0, .slice none 0 0]) (by kernel_rfl)) rfl ?_
    rintro _ wB4 ⟨gB4, rfl, B4, hgB4, ex⟩
    have lB4 := B4.lt; have zB4 := ex.size
    have nB3_4 : gB3 < gB4 := Nat.lt_of_lt_of_le B3.lt hgB4
    replace F := F.grow ex hgB4
    replace KA := KA.grow ex hgB4
    replace B1 := B1.grow ex hgB4
    replace B3 := B3.grow ex hgB4
    refine wl_ef (ef_storeP (o := 0) rfl rfl (by kernel_rfl) B4 (Nat.le_of_ble_eq_true rfl) (all_ones rfl)) rfl ?_
    rintro _ wS3_11 ⟨rfl, D, cg⟩
    have ex := Chs.one cg
    clear cg
    replace F := F.chs ex
    replace KA := KA.chs ex
    replace B1 := B1.chs ex
    replace B3 := B3.chs ex
    replace B4 := D; clear D
    replace B4 := B4.congr (cs' := itemV 1 0 0 h) rfl
    refine wl_y (y_assign rfl) rfl ?_
    refine wl_y (y_assign rfl) rfl ?_
    refine wl_nil ?_
    refine wq_then_norm (hK5 ?_)
    refine wc_seq ?_; intro K6 hK6
    refine wc_seq ?_; intro K7 hK7
    refine wc_region ?_
    refine wl_y (y_move rfl) rfl ?_
    refine wl_y (y_neq rfl rfl) rfl ?_
    refine wl_nil ?_
    refine wq_then_norm (hK7 ?_)
    refine wc_dec rfl (fun hc2 => ?_) (fun hc2 => ?_)
    · skip
      refine wc_seq ?_; intro K8 hK8
      refine wc_drawJ [(7, [gB3])] (by kernel_rfl) 8 rfl ?_; intro wd5 ex hd5
      replace F := F.ext ex
      replace KA := KA.ext ex
      replace B1 := B1.ext ex
      replace B3 := B3.ext ex
      replace B4 := B4.ext ex
      refine wj_y 0 [] rfl (by kernel_rfl) (fun wr (cr : Chs ([]) _ wr) => y_fieldAddr (o := 0) (s := 1) (off := 0) (o' := 0) rfl Tryz.underlying85 rfl (by kernel_rfl) rfl rfl) rfl ?_
      refine wj_y 1 [] rfl (by kernel_rfl) (fun wr (cr : Chs ([]) _ wr) => y_load1 rfl Tryz.underlying22 rfl ((B1.chs cr).get (i := 0) rfl)) rfl ?_
      refine wj_y 2 [] rfl (by kernel_rfl) (fun wr (cr : Chs ([]) _ wr) => y_fieldAddr (o := 1) (s := 1) (off := 0) (o' := 1) rfl Tryz.underlying85 rfl (by kernel_rfl) rfl rfl) rfl ?_
      refine wj_y 3 [] rfl (by kernel_rfl) (fun wr (cr : Chs ([]) _ wr) => y_load1 rfl Tryz.underlying3 rfl ((B1.chs cr).get (i := 1) rfl)) rfl ?_
      refine wj_y 4 [] rfl (by kernel_rfl) (fun wr (cr : Chs ([]) _ wr) => y_move rfl) rfl ?_
      refine wj_y 5 [] rfl (by kernel_rfl) (fun wr (cr : Chs ([]) _ wr) => y_build rfl (cells := placeV A n c at_ (vecAt b at_).2.2) (by kernel_rfl)) rfl ?_
      refine wj_y 6 [] rfl (by kernel_rfl) (fun wr (cr : Chs ([]) _ wr) => y_assign rfl) rfl ?_
      refine wj_one 7 (by kernel_rfl) ?_; refine oj_ef rfl (ef_storeP (o := 0) rfl rfl (by kernel_rfl) B3 (Nat.le_of_ble_eq_true rfl) (all_ones rfl)) rfl ?_
      rintro _ wS5_7 ⟨rfl, D, cg⟩
      have ex := Chs.one cg
      clear cg
      refine ⟨ex, ?_⟩
      replace F := F.chs ex
      replace KA := KA.chs ex
      replace B1 := B1.chs ex
      replace B4 := B4.chs ex
      replace B3 := D; clear D
      replace B3 := B3.congr (cs' := placeV A n c at_ (vecAt b at_).2.2) rfl
      refine wj_done (by kernel_rfl) ?_
      refine wq_nop ?_
      refine wq_then_norm (hK8 ?_)
      refine wc_ret ?_
      refine wq_then_ret ?_
      refine hret rfl rfl B3 rfl ?_
      have e1 := q3 (by omega)
      have e2 : (vecX (.ok (b.drop at_))).1 = [] := vecX_err e1
      have h8 := vecAt_code b at_
      rw [e1, e2]
      exact ⟨nilH, _, rfl, Sub.nil _ _ _, rfl, Nat.le_refl _, Nat.zero_le _, ⟨A, n, c, at_, _, b, rfl, hc, hn, hS, hl, .inr ⟨by omega, h8, rfl⟩⟩, (F.drop (by omega)).drop (by omega) |>.toExt (by simp)⟩
    · skip
      refine wc_skip ?_
      refine wq_then_norm (hK6 ?_)
      refine wc_seq ?_; intro K9 hK9
      refine wc_drawJ [(7, [gB3])] (by kernel_rfl) 8 rfl ?_; intro wd6 ex hd6
      replace F := F.ext ex
      replace KA := KA.ext ex
      replace B1 := B1.ext ex
      replace B3 := B3.ext ex
      replace B4 := B4.ext ex
      refine wj_y 0 [] rfl (by kernel_rfl) (fun wr (cr : Chs ([]) _ wr) => y_fieldAddr (o := 3) (s := 1) (off := 0) (o' := 3) rfl Tryz.underlying147 rfl (by kernel_rfl) rfl rfl) rfl ?_
      refine wj_y 1 [] rfl (by kernel_rfl) (fun wr (cr : Chs ([]) _ wr) => y_load1 rfl Tryz.underlying22 rfl ((B4.chs cr).get (i := 3) rfl)) rfl ?_
      refine wj_y 2 [] rfl (by kernel_rfl) (fun wr (cr : Chs ([]) _ wr) => y_fieldAddr (o := 0) (s := 1) (off := 0) (o' := 0) rfl Tryz.underlying85 rfl (by kernel_rfl) rfl rfl) rfl ?_
      refine wj_y 3 [] rfl (by kernel_rfl) (fun wr (cr : Chs ([]) _ wr) => y_load1 rfl Tryz.underlying22 rfl ((B1.chs cr).get (i := 0) rfl)) rfl ?_
      refine wj_y 4 [] rfl (by kernel_rfl) (fun wr (cr : Chs ([]) _ wr) => y_move rfl) rfl ?_
      refine wj_y 5 [] rfl (by kernel_rfl) (fun wr (cr : Chs ([]) _ wr) => y_build rfl (cells := placeV A n c (vecAt b at_).2.1 0) (by kernel_rfl)) rfl ?_
      refine wj_y 6 [] rfl (by kernel_rfl) (fun wr (cr : Chs ([]) _ wr) => y_assign rfl) rfl ?_
      refine wj_one 7 (by kernel_rfl) ?_; refine oj_ef rfl (ef_storeP (o := 0) rfl rfl (by kernel_rfl) B3 (Nat.le_of_ble_eq_true rfl) (all_ones rfl)) rfl ?_
      rintro _ wS6_7 ⟨rfl, D, cg⟩
      have ex := Chs.one cg
      clear cg
      refine ⟨ex, ?_⟩
      replace F := F.chs ex
      replace KA := KA.chs ex
      replace B1 := B1.chs ex
      replace B4 := B4.chs ex
      replace B3 := D; clear D
      replace B3 := B3.congr (cs' := placeV A n c (vecAt b at_).2.1 0) rfl
      refine wj_done (by kernel_rfl) ?_
      refine wq_nop ?_
      refine wq_then_norm (hK9 ?_)
      refine wc_ret ?_
      refine hret rfl rfl B3 rfl ?_
      obtain ⟨e1, hle⟩ := q2 (by omega)
      rw [e1, q1]
      exact ⟨h, _, rfl, fun w hw => hsub w (hS w hw), hhl, hcap, by rw [q1] at hvl; omega, ⟨A, n, c, _, 0, b, rfl, hc, hn, hS, hl, .inl ⟨rfl, rfl, by omega⟩⟩, (F.drop (by omega)).drop (by omega) |>.toExt (by simp)⟩
theorem plflag_any (w : World) (HA : Bs w A0 n0 b0) (H : PlS A0 n0 b0 cs s) :
    Calls Tryz.prog 101 #[.agg cs] w fun r w' => ∃ cs', r = .returned (.tuple #[.bool (flagX s).1, .agg cs']) ∧ PlS A0 n0 b0 cs' (flagX s).2 ∧ Ext w w' := by
  have F := Chs.refl [] w
  have KA : Kp w.heap.size [] (fun w => Bs w A0 n0 b0) w := Kp.bs HA (by simp)
  obtain ⟨A, n, c, at_, e, b, rfl, hc, hn, hS, hl, hs⟩ := H
  refine vc_entertc (s := 3) 36 Tryz.func101 rfl rfl rfl Tryz.underlying85 rfl (by kernel_rfl) rfl ?_
  intro Q hret
  refine wc_seq ?_; intro K1 hK1
  refine wc_region ?_
  refine wl_ef (ef_box rfl rfl) rfl ?_
  rintro _ wB1 ⟨gB1, rfl, B1, hgB1, ex⟩
  have lB1 := B1.lt; have zB1 := ex.size
  replace F := F.ext ex
  replace KA := KA.ext ex
  refine wl_y (y_assign rfl) rfl ?_
  refine wl_ef (ef_alloc (Z := #[.slice none 0 0, .int .i64 0, .int .i64 0]) (by kernel_rfl)) rfl ?_
  rintro _ wB3 ⟨gB3, rfl, B3, hgB3, ex⟩
  have lB3 := B3.lt; have zB3 := ex.size
  replace F := F.grow ex hgB3
  replace KA := KA.grow ex hgB3
  replace B1 := B1.grow ex hgB3
  refine wl_nil ?_
  refine wq_then_norm (hK1 ?_)
  refine wc_seq ?_; intro K2 hK2
  refine wc_seq ?_; intro K3 hK3
  refine wc_region ?_
  refine wl_y (y_fieldAddr (o := 2) (s := 1) (off := 0) (o' := 2) rfl Tryz.underlying85 rfl (by kernel_rfl) rfl rfl) rfl ?_
  refine wl_y (y_load1 rfl Tryz.underlying3 rfl (B1.get (i := 2) rfl)) rfl ?_
  refine wl_y (y_neq rfl rfl) rfl ?_
  refine wl_nil ?_
  refine wq_then_norm (hK3 ?_)
  refine wc_dec rfl (fun hc1 => ?_) (fun hc1 => ?_)
  · skip
    refine wc_seq ?_; intro K4 hK4
    refine wc_drawJ [(2, [gB3])] (by kernel_rfl) 3 rfl ?_; intro wd2 ex hd2
    replace F := F.ext ex
    replace KA := KA.ext ex
    replace B1 := B1.ext ex
    replace B3 := B3.ext ex
    refine wj_y 0 [] rfl (by kernel_rfl) (fun wr (cr : Chs ([]) _ wr) => y_loadx (o := 0) (s := 3) rfl Tryz.underlying85 rfl (by kernel_rfl) (B1.chs cr) rfl) rfl ?_
    refine wj_y 1 [] rfl (by kernel_rfl) (fun wr (cr : Chs ([]) _ wr) => y_assign rfl) rfl ?_
    refine wj_one 2 (by kernel_rfl) ?_; refine oj_ef rfl (ef_storeP (o := 0) rfl rfl (by kernel_rfl) B3 (Nat.le_of_ble_eq_true rfl) (all_ones rfl)) rfl ?_
    rintro _ wS2_2 ⟨rfl, D, cg⟩
    have ex := Chs.one cg
    clear cg
    refine ⟨ex, ?_⟩
    replace F := F.chs ex
    replace KA := KA.chs ex
    replace B1 := B1.chs ex
    replace B3 := D; clear D
    replace B3 := B3.congr (cs' := placeV A n c at_ e) rfl
    refine wj_done (by kernel_rfl) ?_
    refine wq_nop ?_
    refine wq_then_norm (hK4 ?_)
    refine wc_ret ?_
    refine wq_then_ret ?_
    refine hret rfl rfl B3 rfl ?_
    obtain ⟨h, _⟩ | ⟨h0, h8, rfl⟩ := hs
    · exact absurd h (by omega)
    · exact ⟨_, rfl, ⟨A, n, c, at_, e, b, rfl, hc, hn, hS, hl, .inr ⟨h0, h8, rfl⟩⟩, F.drop (by omega) |>.toExt (by simp)⟩
  · skip
    refine wc_skip ?_
    refine wq_then_norm (hK2 ?_)
    refine wc_seq ?_; intro K5 hK5
    obtain ⟨h0, rfl, hat⟩ : e = 0 ∧ s = .ok (b.drop at_) ∧ at_ ≤ n := by
      rcases hs with h | h
      · exact h
      · exact absurd h.1 (by omega)
    subst h0
    obtain ⟨q2, q3⟩ := flagAt_st (b := b) (at_ := at_) (by omega)
    refine wc_region ?_
    refine wl_y (y_fieldAddr (o := 0) (s := 1) (off := 0) (o' := 0) rfl Tryz.underlying85 rfl (by kernel_rfl) rfl rfl) rfl ?_
    refine wl_y (y_load1 rfl Tryz.underlying22 rfl (B1.get (i := 0) rfl)) rfl ?_
    refine wl_y (y_fieldAddr (o := 1) (s := 1) (off := 0) (o' := 1) rfl Tryz.underlying85 rfl (by kernel_rfl) rfl rfl) rfl ?_
    refine wl_y (y_load1 rfl Tryz.underlying3 rfl (B1.get (i := 1) rfl)) rfl ?_
    refine wl_y (y_build rfl (cells := itemV 3 0 0 nilH) (by kernel_rfl)) rfl ?_
    refine wl_call Tryz.func106 rfl rfl rfl (rtakeF_any _ (hS _ KA.out) hn hat) rfl ?_
    rintro e w1 ⟨rfl, ex⟩
    refine ⟨_, rfl, ?_⟩
    replace F := F.ext ex
    replace KA := KA.ext ex
    replace B1 := B1.ext ex
    replace B3 := B3.ext ex
    skip
    refine wl_y (y_move rfl) rfl ?_
    refine wl_y (y_extract rfl rfl) rfl ?_
    refine wl_y (y_extract rfl rfl) rfl ?_
    refine wl_y (y_extract rfl rfl) rfl ?_
    refine wl_ef (ef_alloc (Z := #[.int .i64 0, .int .i64 0, .int .u64 0, .slice none 0 0, .slice none 0 0]) (by kernel_rfl)) rfl ?_
    rintro _ wB4 ⟨gB4, rfl, B4, hgB4, ex⟩
    have lB4 := B4.lt; have zB4 := ex.size
    have nB3_4 : gB3 < gB4 := Nat.lt_of_lt_of_le B3.lt hgB4
    replace F := F.grow ex hgB4
    replace KA := KA.grow ex hgB4
    replace B1 := B1.grow ex hgB4
    replace B3 := B3.grow ex hgB4
    refine wl_ef (ef_storeP (o := 0) rfl rfl (by kernel_rfl) B4 (Nat.le_of_ble_eq_true rfl) (all_ones rfl)) rfl ?_
    rintro _ wS3_11 ⟨rfl, D, cg⟩
    have ex := Chs.one cg
    clear cg
    replace F := F.chs ex
    replace KA := KA.chs ex
    replace B1 := B1.chs ex
    replace B3 := B3.chs ex
    replace B4 := D; clear D
    replace B4 := B4.congr (cs' := itemV 3 0 (flagAt b at_).1 nilH) rfl
    refine wl_y (y_assign rfl) rfl ?_
    refine wl_y (y_assign rfl) rfl ?_
    refine wl_nil ?_
    refine wq_then_norm (hK5 ?_)
    refine wc_seq ?_; intro K6 hK6
    refine wc_seq ?_; intro K7 hK7
    refine wc_region ?_
    refine wl_y (y_move rfl) rfl ?_
    refine wl_y (y_neq rfl rfl) rfl ?_
    refine wl_nil ?_
    refine wq_then_norm (hK7 ?_)
    refine wc_dec rfl (fun hc2 => ?_) (fun hc2 => ?_)
    · skip
      refine wc_seq ?_; intro K8 hK8
      refine wc_drawJ [(7, [gB3])] (by kernel_rfl) 8 rfl ?_; intro wd5 ex hd5
      replace F := F.ext ex
      replace KA := KA.ext ex
      replace B1 := B1.ext ex
      replace B3 := B3.ext ex
      replace B4 := B4.ext ex
      refine wj_y 0 [] rfl (by kernel_rfl) (fun wr (cr : Chs ([]) _ wr) => y_fieldAddr (o := 0) (s := 1) (off := 0) (o' := 0) rfl Tryz.underlying85 rfl (by kernel_rfl) rfl rfl) rfl ?_
      refine wj_y 1 [] rfl (by kernel_rfl) (fun wr (cr : Chs ([]) _ wr) => y_load1 rfl Tryz.underlying22 rfl ((B1.chs cr).get (i := 0) rfl)) rfl ?_
      refine wj_y 2 [] rfl (by kernel_rfl) (fun wr (cr : Chs ([]) _ wr) => y_fieldAddr (o := 1) (s := 1) (off := 0) (o' := 1) rfl Tryz.underlying85 rfl (by kernel_rfl) rfl rfl) rfl ?_
      refine wj_y 3 [] rfl (by kernel_rfl) (fun wr (cr : Chs ([]) _ wr) => y_load1 rfl Tryz.underlying3 rfl ((B1.chs cr).get (i := 1) rfl)) rfl ?_
      refine wj_y 4 [] rfl (by kernel_rfl) (fun wr (cr : Chs ([]) _ wr) => y_move rfl) rfl ?_
      refine wj_y 5 [] rfl (by kernel_rfl) (fun wr (cr : Chs ([]) _ wr) => y_build rfl (cells := placeV A n c at_ (flagAt b at_).2.2) (by kernel_rfl)) rfl ?_
      refine wj_y 6 [] rfl (by kernel_rfl) (fun wr (cr : Chs ([]) _ wr) => y_assign rfl) rfl ?_
      refine wj_one 7 (by kernel_rfl) ?_; refine oj_ef rfl (ef_storeP (o := 0) rfl rfl (by kernel_rfl) B3 (Nat.le_of_ble_eq_true rfl) (all_ones rfl)) rfl ?_
      rintro _ wS5_7 ⟨rfl, D, cg⟩
      have ex := Chs.one cg
      clear cg
      refine ⟨ex, ?_⟩
      replace F := F.chs ex
      replace KA := KA.chs ex
      replace B1 := B1.chs ex
      replace B4 := B4.chs ex
      replace B3 := D; clear D
      replace B3 := B3.congr (cs' := placeV A n c at_ (flagAt b at_).2.2) rfl
      refine wj_done (by kernel_rfl) ?_
      refine wq_nop ?_
      refine wq_then_norm (hK8 ?_)
      refine wc_ret ?_
      refine wq_then_ret ?_
      refine hret rfl rfl B3 rfl ?_
      obtain ⟨e1, h8⟩ := q3 (by omega)
      rw [e1]
      exact ⟨_, rfl, ⟨A, n, c, at_, _, b, rfl, hc, hn, hS, hl, .inr ⟨by omega, h8, rfl⟩⟩, (F.drop (by omega)).drop (by omega) |>.toExt (by simp)⟩
    · skip
      refine wc_skip ?_
      refine wq_then_norm (hK6 ?_)
      refine wc_seq ?_; intro K9 hK9
      refine wc_drawJ [(8, [gB3])] (by kernel_rfl) 9 rfl ?_; intro wd6 ex hd6
      replace F := F.ext ex
      replace KA := KA.ext ex
      replace B1 := B1.ext ex
      replace B3 := B3.ext ex
      replace B4 := B4.ext ex
      refine wj_y 0 [] rfl (by kernel_rfl) (fun wr (cr : Chs ([]) _ wr) => y_fieldAddr (o := 2) (s := 1) (off := 0) (o' := 2) rfl Tryz.underlying147 rfl (by kernel_rfl) rfl rfl) rfl ?_
      refine wj_y 1 [] rfl (by kernel_rfl) (fun wr (cr : Chs ([]) _ wr) => y_load1 rfl Tryz.underlying53 rfl ((B4.chs cr).get (i := 2) rfl)) rfl ?_
      refine wj_y 2 [] rfl (by kernel_rfl) (fun wr (cr : Chs ([]) _ wr) => y_eql rfl rfl) rfl ?_
      refine wj_y 3 [] rfl (by kernel_rfl) (fun wr (cr : Chs ([]) _ wr) => y_fieldAddr (o := 0) (s := 1) (off := 0) (o' := 0) rfl Tryz.underlying85 rfl (by kernel_rfl) rfl rfl) rfl ?_
      refine wj_y 4 [] rfl (by kernel_rfl) (fun wr (cr : Chs ([]) _ wr) => y_load1 rfl Tryz.underlying22 rfl ((B1.chs cr).get (i := 0) rfl)) rfl ?_
      refine wj_y 5 [] rfl (by kernel_rfl) (fun wr (cr : Chs ([]) _ wr) => y_move rfl) rfl ?_
      refine wj_y 6 [] rfl (by kernel_rfl) (fun wr (cr : Chs ([]) _ wr) => y_build rfl (cells := placeV A n c (flagAt b at_).2.1 0) (by kernel_rfl)) rfl ?_
      refine wj_y 7 [] rfl (by kernel_rfl) (fun wr (cr : Chs ([]) _ wr) => y_assign rfl) rfl ?_
      refine wj_one 8 (by kernel_rfl) ?_; refine oj_ef rfl (ef_storeP (o := 0) rfl rfl (by kernel_rfl) B3 (Nat.le_of_ble_eq_true rfl) (all_ones rfl)) rfl ?_
      rintro _ wS6_8 ⟨rfl, D, cg⟩
      have ex := Chs.one cg
      clear cg
      refine ⟨ex, ?_⟩
      replace F := F.chs ex
      replace KA := KA.chs ex
      replace B1 := B1.chs ex
      replace B4 := B4.chs ex
      replace B3 := D; clear D
      replace B3 := B3.congr (cs' := placeV A n c (flagAt b at_).2.1 0) rfl
      refine wj_done (by kernel_rfl) ?_
      refine wq_nop ?_
      refine wq_then_norm (hK9 ?_)
      refine wc_ret ?_
      refine hret rfl rfl B3 rfl ?_
      obtain ⟨e1, hle⟩ := q2 (by omega)
      rw [e1]
      have eb : decide ((((flagAt b at_).1 : Nat) : Int) = 1) = decide ((flagAt b at_).1 = 1) := decide_eq_decide.2 (by omega)
      exact ⟨placeV A n c (flagAt b at_).2.1 0, by show _ = Ending.returned (.tuple #[.bool (decide ((flagAt b at_).1 = 1)), .agg (placeV A n c (flagAt b at_).2.1 0)]); rw [← eb], ⟨A, n, c, _, 0, b, rfl, hc, hn, hS, hl, .inl ⟨rfl, rfl, by omega⟩⟩, (F.drop (by omega)).drop (by omega) |>.toExt (by simp)⟩
/-- Is something left, without an error? -/
def moreX : St → Bool
  | .ok xs => decide (0 < xs.length)
  | .error _ => false
theorem plmore_any (w : World) (H : PlS A0 n0 b0 cs s) : Calls Tryz.prog 100 #[.agg cs] w fun r w' => r = .returned (.bool (moreX s)) ∧ Ext w w' := by
  have E := Ext.refl w
  obtain ⟨A, n, c, at_, e, b, rfl, hc, hn, hS, hl, hs⟩ := H
  refine vc_enter1 14 Tryz.func100 rfl rfl rfl rfl ?_
  intro Q hret
  refine wc_seq ?_; intro K1 hK1
  refine wc_region ?_
  refine wl_ef (ef_box rfl rfl) rfl ?_
  rintro _ wB1 ⟨gB1, rfl, B1, hgB1, ex⟩
  have lB1 := B1.lt; have zB1 := ex.size
  replace E := E.ext ex
  refine wl_y (y_assign rfl) rfl ?_
  refine wl_nil ?_
  refine wq_then_norm (hK1 ?_)
  refine wc_seq ?_; intro K2 hK2
  refine wc_region ?_
  refine wl_y (y_fieldAddr (o := 2) (s := 1) (off := 0) (o' := 2) rfl Tryz.underlying85 rfl (by kernel_rfl) rfl rfl) rfl ?_
  refine wl_y (y_load1 rfl Tryz.underlying3 rfl (B1.get (i := 2) rfl)) rfl ?_
  refine wl_yask (y_eql rfl rfl) rfl (fun he => ?_) (fun he => ?_)
  · skip
    refine wl_y (y_move rfl) rfl ?_
    refine wl_gy 6 rfl rfl (y_fieldAddr (o := 1) (s := 1) (off := 0) (o' := 1) rfl Tryz.underlying85 rfl (by kernel_rfl) rfl rfl) rfl ?_
    refine wl_gy 6 rfl rfl (y_load1 rfl Tryz.underlying3 rfl (B1.get (i := 1) rfl)) rfl ?_
    refine wl_gy 6 rfl rfl (y_fieldAddr (o := 0) (s := 1) (off := 0) (o' := 0) rfl Tryz.underlying85 rfl (by kernel_rfl) rfl rfl) rfl ?_
    refine wl_gy 6 rfl rfl (y_load1 rfl Tryz.underlying22 rfl (B1.get (i := 0) rfl)) rfl ?_
    refine wl_gy 6 rfl rfl (y_len_slice rfl Tryz.underlying22) rfl ?_
    refine wl_gy 6 rfl rfl (y_lss rfl rfl) rfl ?_
    refine wl_y (y_pickt rfl rfl) rfl ?_
    refine wl_y (y_assign rfl) rfl ?_
    refine wl_nil ?_
    refine wq_then_norm (hK2 ?_)
    refine wc_ret ?_
    refine hret rfl ?_
    obtain ⟨_, rfl, hat⟩ : e = 0 ∧ s = .ok (b.drop at_) ∧ at_ ≤ n := by
      rcases hs with h | h
      · exact h
      · exact absurd h.1 (by omega)
    refine ⟨?_, E⟩
    show _ = Ending.returned (.bool (decide (0 < (b.drop at_).length)))
    congr 2
    exact decide_eq_decide.2 (by rw [List.length_drop, hl]; omega)
  · skip
    refine wl_y (y_move rfl) rfl ?_
    refine wl_gno 6 rfl rfl rfl rfl ?_
    refine wl_gno 6 rfl rfl rfl rfl ?_
    refine wl_gno 6 rfl rfl rfl rfl ?_
    refine wl_gno 6 rfl rfl rfl rfl ?_
    refine wl_gno 6 rfl rfl rfl rfl ?_
    refine wl_gno 6 rfl rfl rfl rfl ?_
    refine wl_y (y_pickf rfl rfl) rfl ?_
    refine wl_y (y_assign rfl) rfl ?_
    refine wl_nil ?_
    refine wq_then_norm (hK2 ?_)
    refine wc_ret ?_
    refine hret rfl ?_
    obtain ⟨h, _⟩ | ⟨h0, h8, rfl⟩ := hs
    · exact absurd h (by omega)
    · exact ⟨rfl, E⟩
theorem plend_any (w : World) (H : PlS A0 n0 b0 cs s) : Calls Tryz.prog 43 #[.agg cs] w fun r w' => r = .returned (.int .i64 ((endX s : Nat) : Int)) ∧ Ext w w' := by
  have E := Ext.refl w
  obtain ⟨A, n, c, at_, e, b, rfl, hc, hn, hS, hl, hs⟩ := H
  refine vc_enter1 16 Tryz.func43 rfl rfl rfl rfl ?_
  intro Q hret
  refine wc_seq ?_; intro K1 hK1
  refine wc_region ?_
  refine wl_ef (ef_box rfl rfl) rfl ?_
  rintro _ wB1 ⟨gB1, rfl, B1, hgB1, ex⟩
  have lB1 := B1.lt; have zB1 := ex.size
  replace E := E.ext ex
  refine wl_y (y_assign rfl) rfl ?_
  refine wl_nil ?_
  refine wq_then_norm (hK1 ?_)
  refine wc_seq ?_; intro K2 hK2
  refine wc_seq ?_; intro K3 hK3
  refine wc_region ?_
  refine wl_y (y_fieldAddr (o := 2) (s := 1) (off := 0) (o' := 2) rfl Tryz.underlying85 rfl (by kernel_rfl) rfl rfl) rfl ?_
  refine wl_y (y_load1 rfl Tryz.underlying3 rfl (B1.get (i := 2) rfl)) rfl ?_
  refine wl_yask (y_eql rfl rfl) rfl (fun he => ?_) (fun he => ?_)
  · skip
    refine wl_y (y_move rfl) rfl ?_
    refine wl_gy 6 rfl rfl (y_fieldAddr (o := 1) (s := 1) (off := 0) (o' := 1) rfl Tryz.underlying85 rfl (by kernel_rfl) rfl rfl) rfl ?_
    refine wl_gy 6 rfl rfl (y_load1 rfl Tryz.underlying3 rfl (B1.get (i := 1) rfl)) rfl ?_
    refine wl_gy 6 rfl rfl (y_fieldAddr (o := 0) (s := 1) (off := 0) (o' := 0) rfl Tryz.underlying85 rfl (by kernel_rfl) rfl rfl) rfl ?_
    refine wl_gy 6 rfl rfl (y_load1 rfl Tryz.underlying22 rfl (B1.get (i := 0) rfl)) rfl ?_
    refine wl_gy 6 rfl rfl (y_len_slice rfl Tryz.underlying22) rfl ?_
    refine wl_gy 6 rfl rfl (y_lss rfl rfl) rfl ?_
    refine wl_y (y_pickt rfl rfl) rfl ?_
    refine wl_nil ?_
    refine wq_then_norm (hK3 ?_)
    refine wc_dec rfl (fun hc1 => ?_) (fun hc1 => ?_)
    · skip
      obtain ⟨_, rfl, hat⟩ : e = 0 ∧ s = .ok (b.drop at_) ∧ at_ ≤ n := by
        rcases hs with h | h
        · exact h
        · exact absurd h.1 (by omega)
      have hq := endX_drop (b := b) (k := at_)
      refine wc_seq ?_; intro K4 hK4
      refine wc_region ?_
      refine wl_y (y_assign rfl) rfl ?_
      refine wl_nil ?_
      refine wq_then_norm (hK4 ?_)
      refine wc_ret ?_
      refine wq_then_ret ?_
      refine hret rfl ?_
      rw [hq, if_pos (by omega)]
      exact ⟨rfl, E⟩
    · skip
      obtain ⟨_, rfl, hat⟩ : e = 0 ∧ s = .ok (b.drop at_) ∧ at_ ≤ n := by
        rcases hs with h | h
        · exact h
        · exact absurd h.1 (by omega)
      have hq := endX_drop (b := b) (k := at_)
      refine wc_skip ?_
      refine wq_then_norm (hK2 ?_)
      refine wc_seq ?_; intro K5 hK5
      refine wc_region ?_
      refine wl_y (y_fieldAddr (o := 2) (s := 1) (off := 0) (o' := 2) rfl Tryz.underlying85 rfl (by kernel_rfl) rfl rfl) rfl ?_
      refine wl_y (y_load1 rfl Tryz.underlying3 rfl (B1.get (i := 2) rfl)) rfl ?_
      refine wl_y (y_assign rfl) rfl ?_
      refine wl_nil ?_
      refine wq_then_norm (hK5 ?_)
      refine wc_ret ?_
      refine hret rfl ?_
      rw [hq, if_neg (by omega), show e = 0 by omega]
      exact ⟨rfl, E⟩
  · skip
    refine wl_y (y_move rfl) rfl ?_
    refine wl_gno 6 rfl rfl rfl rfl ?_
    refine wl_gno 6 rfl rfl rfl rfl ?_
    refine wl_gno 6 rfl rfl rfl rfl ?_
    refine wl_gno 6 rfl rfl rfl rfl ?_
    refine wl_gno 6 rfl rfl rfl rfl ?_
    refine wl_gno 6 rfl rfl rfl rfl ?_
    refine wl_y (y_pickf rfl rfl) rfl ?_
    refine wl_nil ?_
    refine wq_then_norm (hK3 ?_)
    refine wc_false rfl rfl ?_
    refine wc_skip ?_
    refine wq_then_norm (hK2 ?_)
    refine wc_seq ?_; intro K6 hK6
    refine wc_region ?_
    refine wl_y (y_fieldAddr (o := 2) (s := 1) (off := 0) (o' := 2) rfl Tryz.underlying85 rfl (by kernel_rfl) rfl rfl) rfl ?_
    refine wl_y (y_load1 rfl Tryz.underlying3 rfl (B1.get (i := 2) rfl)) rfl ?_
    refine wl_y (y_assign rfl) rfl ?_
    refine wl_nil ?_
    refine wq_then_norm (hK6 ?_)
    refine wc_ret ?_
    refine hret rfl ?_
    obtain ⟨h, _⟩ | ⟨h0, h8, rfl⟩ := hs
    · exact absurd h (by omega)
    · exact ⟨rfl, E⟩
end
end
end Go.Proofs.YtpgalbgonmclaaaGreat
