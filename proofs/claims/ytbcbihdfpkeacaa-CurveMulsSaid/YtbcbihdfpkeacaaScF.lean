/- The law CurveMuls: it answers true whatever it is given. -/
import Derived.Test.YtbcbihdfpkeacaaScE
namespace Go.Proofs.Ytbcbihdfpkeacaa
open Go.RowKit
namespace Ed
theorem mulB_mod (n : Nat) : mul (n % Sc.L) B = mul n B := mul_mod on_B base_order n
theorem mulB_add (s t : Nat) : mul ((s + t) % Sc.L) B = add (mul s B) (mul t B) := by rw [mulB_mod, mul_add on_B]
theorem mulB_mul (s t : Nat) : mul (s * t % Sc.L) B = mul t (mul s B) := by rw [mulB_mod, mul_mul on_B]
theorem mulB_neg {s : Nat} (h : s < Sc.L) : mul ((Sc.L - s) % Sc.L) B = neg (mul s B) := by
  rw [mulB_mod]
  refine neg_unique (on_mul on_B s) (on_mul on_B _) ?_
  rw [← mul_add on_B, show s + (Sc.L - s) = L by unfold Sc.L at *; omega, base_order]
theorem mulB_last : add (mul ((Sc.L - 1) % Sc.L) B) B = O := by
  rw [mulB_neg (by rw [Sc.L_eq]; omega), mul_one, neg_add on_B]
end Ed
attribute [local irreducible] Y Ef WL WC WK WQ WM OpM WN WF OpN
theorem y_ws {L : List (Nat × Value)} {w : World} {ty e : TypeId} {x : Operand} {g n : Nat} (hx : ev L x = some (.pointer (some ⟨g, 0, none⟩))) (B : Blk w g e (ws (Sc.wd n))) : Y Try.prog L w (.load 82 x) ty (.agg (ws (Sc.wd n))) := y_loadw hx Try.underlying82 rfl (by rw [ws_size]; kernel_rfl) B
theorem ws_zero : ws (Sc.wd 0) = ws z4 := ws_congr fun j _ => by unfold z4 Sc.wd; simp
set_option maxHeartbeats 4000000 in
theorem curveMuls_law (A : Option Addr) (n c : Nat) (xs : List UInt8) (B : Option Addr) (m d : Nat) (ys : List UInt8) (C : Option Addr) (k f : Nat) (zs : List UInt8) (z : Int) (w : World) (HA : Bs w A n xs) (_hn : n ≤ maxLen) (HB : Bs w B m ys) (_hm : m ≤ maxLen) (hd : m ≤ d) (HC : Bs w C k zs) (_hk : k ≤ maxLen) (hf : k ≤ f) (hz : (Lit.int .u8 z).wf = true) :
    Calls Try.prog 14 #[.slice A n c, .slice B m d, .slice C k f, .int .u8 z] w fun e w' => e = .returned (.bool true) ∧ Below w.heap.size w w' := by
  have hz' : 0 ≤ z ∧ z ≤ 255 := bounds_u8 hz
  obtain ⟨v, hv⟩ : ∃ v : Nat, z = v := ⟨z.toNat, by omega⟩
  subst hv
  have hLp := Sc.L_pos
  obtain ⟨S, hS⟩ : ∃ S, S = Fp.num (ys.take 64) % Sc.L := ⟨_, rfl⟩
  obtain ⟨T, hT⟩ : ∃ T, T = Fp.num (zs.take 64) % Sc.L := ⟨_, rfl⟩
  have hSl : S < Sc.L := hS ▸ Nat.mod_lt _ hLp
  have hTl : T < Sc.L := hT ▸ Nat.mod_lt _ hLp
  have h1l : 1 < Sc.L := by rw [Sc.L_eq]; omega
  have hvl : v % 12 < Sc.L := by rw [Sc.L_eq]; omega
  have hone : Fp.num (List.take 64 [(1 : UInt8)]) % Sc.L = 1 := by decide +kernel
  have hvee : Fp.num (List.take 64 [UInt8.ofNat (v % 12)]) % Sc.L = v % 12 := by
    have e : Fp.num (List.take 64 [UInt8.ofNat (v % 12)]) = (UInt8.ofNat (v % 12)).toNat := by simp [Fp.num]
    rw [e, UInt8.toNat_ofNat', Nat.mod_eq_of_lt (show v % 12 < 2 ^ 8 by omega), Nat.mod_eq_of_lt hvl]
  have E := Ext.refl w
  refine vc_enter1 131 Try.func14 rfl rfl rfl rfl ?_
  intro Q hret
  refine wc_seq ?_; intro K1 hK1
  refine wc_region ?_
  refine wl_y (y_assign rfl) rfl ?_
  refine wl_nil ?_
  refine wq_then_norm (hK1 ?_)
  refine wc_seq ?_; intro K2 hK2
  refine wc_seq ?_; intro K3 hK3
  refine wc_region ?_
  refine wl_call Try.func63 rfl rfl rfl (alive9_any _) rfl ?_
  rintro e w1 ⟨rfl, ex⟩
  refine ⟨_, rfl, ?_⟩
  replace E := E.ext ex
  refine wl_y (y_not rfl) rfl ?_
  refine wl_nil ?_
  refine wq_then_norm (hK3 ?_)
  refine wc_false rfl rfl ?_
  refine wc_skip ?_
  refine wq_then_norm (hK2 ?_)
  refine wc_seq ?_; intro K4 hK4
  refine wc_seq ?_; intro K5 hK5
  refine wc_region ?_
  refine wl_y (y_move rfl) rfl ?_
  refine wl_y (y_len_slice rfl Try.underlying22) rfl ?_
  refine wl_y (y_gtr rfl rfl) rfl ?_
  refine wl_yask (y_move rfl) rfl (fun h1 => ?_) (fun h1 => ?_)
  · skip
    refine wl_gno 22 rfl rfl rfl rfl ?_
    refine wl_gno 22 rfl rfl rfl rfl ?_
    refine wl_gno 22 rfl rfl rfl rfl ?_
    refine wl_y (y_pickt rfl rfl) rfl ?_
    refine wl_nil ?_
    refine wq_then_norm (hK5 ?_)
    refine wc_true rfl rfl ?_
    refine wc_seq ?_; intro K6 hK6
    refine wc_region ?_
    refine wl_y (y_assign rfl) rfl ?_
    refine wl_nil ?_
    refine wq_then_norm (hK6 ?_)
    refine wc_ret ?_
    refine wq_then_ret ?_
    refine hret rfl ?_
    exact ⟨rfl, E⟩
  · skip
    refine wl_gy 22 rfl rfl (y_move rfl) rfl ?_
    refine wl_gy 22 rfl rfl (y_len_slice rfl Try.underlying22) rfl ?_
    refine wl_gy 22 rfl rfl (y_gtr rfl rfl) rfl ?_
    refine wl_y (y_pickf rfl rfl) rfl ?_
    refine wl_nil ?_
    refine wq_then_norm (hK5 ?_)
    refine wc_dec rfl (fun hc2 => ?_) (fun hc2 => ?_)
    · skip
      refine wc_seq ?_; intro K7 hK7
      refine wc_region ?_
      refine wl_y (y_assign rfl) rfl ?_
      refine wl_nil ?_
      refine wq_then_norm (hK7 ?_)
      refine wc_ret ?_
      refine wq_then_ret ?_
      refine hret rfl ?_
      exact ⟨rfl, E⟩
    · skip
      refine wc_skip ?_
      refine wq_then_norm (hK4 ?_)
      refine wc_seq ?_; intro K8 hK8
      refine wc_region ?_
      refine wl_y (y_move rfl) rfl ?_
      refine wl_call Try.func64 rfl rfl rfl (Pof_any A n c xs _ (HA.ext E)) rfl ?_
      rintro e w2 ⟨c9, rfl, P9, ex⟩
      refine ⟨_, rfl, ?_⟩
      replace E := E.ext ex
      have o9 := dec_onD xs
      refine wl_y (y_move rfl) rfl ?_
      refine wl_y (y_extract rfl rfl) rfl ?_
      refine wl_y (y_extract rfl rfl) rfl ?_
      have hz5 := E.size
      refine wl_ef (ef_alloc (Z := pc zf zf zf zf false) (by kernel_rfl)) rfl ?_
      rintro _ w3 ⟨g9, rfl, B9, hg9, ex⟩
      replace E := E.ext ex
      skip
      refine wl_ef (ef_storeW rfl rfl (by rw [P9.size]; kernel_rfl) B9 (by rw [pc_size, P9.size]) P9.one) rfl ?_
      rintro _ w4 ⟨rfl, D9, cg⟩
      replace E := E.chg cg (by omega); replace B9 := D9; have hw9 : w.heap.size ≤ g9 := (by omega)
      refine wl_y (y_assign rfl) rfl ?_
      refine wl_nil ?_
      refine wq_then_norm (hK8 ?_)
      refine wc_seq ?_; intro K9 hK9
      refine wc_seq ?_; intro K10 hK10
      refine wc_region ?_
      refine wl_y (y_move rfl) rfl ?_
      refine wl_y (y_not rfl) rfl ?_
      refine wl_nil ?_
      refine wq_then_norm (hK10 ?_)
      refine wc_join (fun L wj3 => ∃ (cs : Array Value) (P : Fp.F × Fp.F), L = [(1, .slice B m d), (2, .slice C k f), (3, .int .u8 (v : Int)), (9, .pointer (some ⟨g9, 0, none⟩))] ∧ (PP cs P ∧ Ed.On P ∧ Ext w wj3 ∧ Blk wj3 g9 67 cs)) ?_ ?_
      · skip
        refine wc_cond rfl (fun hc3 => ?_) (fun hc3 => ?_)
        · skip
          refine wc_region ?_
          refine wl_call Try.func77 rfl rfl rfl (pbase_any _) rfl ?_
          rintro e w5 ⟨cb, rfl, Pb, ex⟩
          refine ⟨_, rfl, ?_⟩
          replace E := E.ext ex
          replace B9 := B9.ext ex
          skip
          refine wl_ef (ef_storeW rfl rfl (by rw [Pb.size]; kernel_rfl) B9 (by rw [P9.size, Pb.size]) Pb.one) rfl ?_
          rintro _ w6 ⟨rfl, D9, cg⟩
          replace E := E.chg cg hw9; replace B9 := D9; replace P9 := Pb.pp; replace o9 := Ed.on_B
          refine wl_nil ?_
          exact wq_join _ ⟨_, _, rfl, P9, o9, E, B9⟩ ⟨rfl, rfl, (by first | rfl | exact congrArg some (int_val (by omega))), rfl, trivial⟩
        · skip
          refine wc_skip ?_
          exact wq_join _ ⟨_, _, rfl, P9, o9, E, B9⟩ ⟨rfl, rfl, (by first | rfl | exact congrArg some (int_val (by omega))), rfl, trivial⟩
      rintro L wj3 ⟨cs, P, rfl, Pp, op, E, B9⟩
      refine wq_then_norm (hK9 ?_)
      refine wc_seq ?_; intro K11 hK11
      refine wc_region ?_
      refine wl_call Try.func77 rfl rfl rfl (pbase_any _) rfl ?_
      rintro e w7 ⟨cb, rfl, Pb, ex⟩
      refine ⟨_, rfl, ?_⟩
      replace E := E.ext ex
      replace B9 := B9.ext ex
      skip
      have hz8 := E.size; have hl8 := B9.lt
      refine wl_ef (ef_alloc (Z := pc zf zf zf zf false) (by kernel_rfl)) rfl ?_
      rintro _ w8 ⟨g11, rfl, B11, hg11, ex⟩
      replace E := E.ext ex
      replace B9 := B9.ext ex
      skip
      refine wl_ef (ef_storeW rfl rfl (by rw [Pb.size]; kernel_rfl) B11 (by rw [pc_size, Pb.size]) Pb.one) rfl ?_
      rintro _ w9 ⟨rfl, D11, cg⟩
      replace E := E.chg cg (by omega); replace B9 := B9.chg cg (by omega); replace B11 := D11
      refine wl_nil ?_
      refine wq_then_norm (hK11 ?_)
      refine wc_seq ?_; intro K12 hK12
      refine wc_region ?_
      refine wl_y (y_move rfl) rfl ?_
      refine wl_call Try.func78 rfl rfl rfl (sof_any B m d ys _ (HB.ext E) hd) rfl ?_
      rintro e w10 ⟨rfl, ex⟩
      refine ⟨_, rfl, ?_⟩
      replace E := E.ext ex
      replace B9 := B9.ext ex
      replace B11 := B11.ext ex
      rw [← hS]
      refine wl_y (y_move rfl) rfl ?_
      refine wl_call Try.func78 rfl rfl rfl (sof_any C k f zs _ (HC.ext E) hf) rfl ?_
      rintro e w11 ⟨rfl, ex⟩
      refine ⟨_, rfl, ?_⟩
      replace E := E.ext ex
      replace B9 := B9.ext ex
      replace B11 := B11.ext ex
      rw [← hT]
      have hz9 := E.size; have hl99 := B9.lt; have hl911 := B11.lt
      refine wl_ef (ef_alloc (Z := ws z4) (by kernel_rfl)) rfl ?_
      rintro _ w12 ⟨g12, rfl, B12, hg12, ex⟩
      replace E := E.ext ex
      replace B9 := B9.ext ex
      replace B11 := B11.ext ex
      have hl12 := B12.lt
      refine wl_ef (ef_alloc (Z := ws z4) (by kernel_rfl)) rfl ?_
      rintro _ w13 ⟨g13, rfl, B13, hg13, ex⟩
      replace E := E.ext ex
      replace B9 := B9.ext ex
      replace B11 := B11.ext ex
      replace B12 := B12.ext ex
      skip
      refine wl_ef (ef_storeW rfl rfl (by rw [ws_size]; kernel_rfl) B12 (by rw [ws_size, ws_size]) (ws_one _)) rfl ?_
      rintro _ w14 ⟨rfl, D12, cg⟩
      replace E := E.chg cg (by omega); replace B9 := B9.chg cg (by omega); replace B11 := B11.chg cg (by omega); replace B13 := B13.chg cg (by omega); replace B12 := D12
      refine wl_ef (ef_storeW rfl rfl (by rw [ws_size]; kernel_rfl) B13 (by rw [ws_size, ws_size]) (ws_one _)) rfl ?_
      rintro _ w15 ⟨rfl, D13, cg⟩
      replace E := E.chg cg (by omega); replace B9 := B9.chg cg (by omega); replace B11 := B11.chg cg (by omega); replace B12 := B12.chg cg (by omega); replace B13 := D13
      refine wl_nil ?_
      refine wq_then_norm (hK12 ?_)
      refine wc_seq ?_; intro K13 hK13
      refine wc_region ?_
      refine wl_ef (ef_lit (z := .int .u8 0) Try.underlying22 (by kernel_rfl) rfl rfl rfl rfl rfl) rfl ?_
      rintro _ w16 ⟨gl, rfl, Bl, hgl, ex⟩
      replace E := E.ext ex
      replace B9 := B9.ext ex
      replace B11 := B11.ext ex
      replace B12 := B12.ext ex
      replace B13 := B13.ext ex
      skip
      refine wl_call Try.func78 rfl rfl rfl (sof_any (some ⟨gl, 0, none⟩) 1 1 [(1 : UInt8)] _ (bs_blk' (xs := [(1 : UInt8)]) (Bl.congr (by rfl)) rfl) (by omega)) rfl ?_
      rintro e w17 ⟨rfl, ex⟩
      refine ⟨_, rfl, ?_⟩
      replace E := E.ext ex
      replace B9 := B9.ext ex
      replace B11 := B11.ext ex
      replace B12 := B12.ext ex
      replace B13 := B13.ext ex
      rw [hone]
      have hz10 := E.size; have hl109 := B9.lt; have hl1011 := B11.lt; have hl1012 := B12.lt; have hl1013 := B13.lt
      refine wl_ef (ef_alloc (Z := ws z4) (by kernel_rfl)) rfl ?_
      rintro _ w18 ⟨g14, rfl, B14, hg14, ex⟩
      replace E := E.ext ex
      replace B9 := B9.ext ex
      replace B11 := B11.ext ex
      replace B12 := B12.ext ex
      replace B13 := B13.ext ex
      skip
      refine wl_ef (ef_storeW rfl rfl (by rw [ws_size]; kernel_rfl) B14 (by rw [ws_size, ws_size]) (ws_one _)) rfl ?_
      rintro _ w19 ⟨rfl, D14, cg⟩
      replace E := E.chg cg (by omega); replace B9 := B9.chg cg (by omega); replace B11 := B11.chg cg (by omega); replace B12 := B12.chg cg (by omega); replace B13 := B13.chg cg (by omega); replace B14 := D14
      refine wl_nil ?_
      refine wq_then_norm (hK13 ?_)
      refine wc_seq ?_; intro K14 hK14
      refine wc_region ?_
      refine wl_call Try.func66 rfl rfl rfl (pnothing_any _) rfl ?_
      rintro e w20 ⟨c15, rfl, P15, ex⟩
      refine ⟨_, rfl, ?_⟩
      replace E := E.ext ex
      replace B9 := B9.ext ex
      replace B11 := B11.ext ex
      replace B12 := B12.ext ex
      replace B13 := B13.ext ex
      replace B14 := B14.ext ex
      skip
      have hz11 := E.size; have hl119 := B9.lt; have hl1111 := B11.lt; have hl1112 := B12.lt; have hl1113 := B13.lt; have hl1114 := B14.lt
      refine wl_ef (ef_alloc (Z := pc zf zf zf zf false) (by kernel_rfl)) rfl ?_
      rintro _ w21 ⟨g15, rfl, B15, hg15, ex⟩
      replace E := E.ext ex
      replace B9 := B9.ext ex
      replace B11 := B11.ext ex
      replace B12 := B12.ext ex
      replace B13 := B13.ext ex
      replace B14 := B14.ext ex
      skip
      refine wl_ef (ef_storeW rfl rfl (by rw [P15.size]; kernel_rfl) B15 (by rw [pc_size, P15.size]) P15.one) rfl ?_
      rintro _ w22 ⟨rfl, D15, cg⟩
      replace E := E.chg cg (by omega); replace B9 := B9.chg cg (by omega); replace B11 := B11.chg cg (by omega); replace B12 := B12.chg cg (by omega); replace B13 := B13.chg cg (by omega); replace B14 := B14.chg cg (by omega); replace B15 := D15
      refine wl_nil ?_
      refine wq_then_norm (hK14 ?_)
      refine wc_seq ?_; intro K15 hK15
      refine wc_seq ?_; intro K16 hK16
      refine wc_region ?_
      refine wl_y (y_assign rfl) rfl ?_
      refine wl_nil ?_
      refine wq_then_norm (hK16 ?_)
      refine wc_block ?_
      refine wc_loop (fun n' L wr => ∃ (i : Nat) (cf : Array Value), L = [(3, .int .u8 (v : Int)), (9, .pointer (some ⟨g9, 0, none⟩)), (11, .pointer (some ⟨g11, 0, none⟩)), (12, .pointer (some ⟨g12, 0, none⟩)), (13, .pointer (some ⟨g13, 0, none⟩)), (14, .pointer (some ⟨g14, 0, none⟩)), (15, .pointer (some ⟨g15, 0, none⟩)), (16, .int .i64 (i : Int))] ∧ n' = v % 12 - i ∧ (i ≤ v % 12 ∧ PT cf (Ed.mul i P) ∧ Ext w wr ∧ Blk wr g9 67 cs ∧ Blk wr g11 67 cb ∧ Blk wr g12 82 (ws (Sc.wd S)) ∧ Blk wr g13 82 (ws (Sc.wd T)) ∧ Blk wr g14 82 (ws (Sc.wd 1)) ∧ Blk wr g15 67 cf)) _ _ ⟨0, c15, rfl, rfl, by omega, P15, E, B9, B11, B12, B13, B14, B15⟩ ⟨(by first | rfl | exact congrArg some (int_val (by omega))), rfl, rfl, rfl, rfl, rfl, rfl, (by first | rfl | exact congrArg some (int_val (by omega))), trivial⟩ ?_
      rintro KL1 n' L wr ⟨i, cf, rfl, rfl, hi, Pf, E, B9, B11, B12, B13, B14, B15⟩ hL1
      refine wc_seq ?_; intro K17 hK17
      refine wc_seq ?_; intro K18 hK18
      refine wc_region ?_
      refine wl_y (y_move rfl) rfl ?_
      refine wl_y (y_move rfl) rfl ?_
      refine wl_y (y_conv rfl Try.underlying5 Try.underlying3 (show IntKind.i64.wrap ((v : Nat) : Int) = _ from i64_nat rfl (by omega))) rfl ?_
      refine wl_y (y_rem rfl rfl (by omega) (show ((v : Nat) : Int).tmod 12 = ((v % 12 : Nat) : Int) from rfl)) rfl ?_
      refine wl_y (y_lss rfl rfl) rfl ?_
      refine wl_nil ?_
      refine wq_then_norm (hK18 ?_)
      refine wc_dec rfl (fun hc4 => ?_) (fun hc4 => ?_)
      · skip
        refine wc_skip ?_
        refine wq_then_norm (hK17 ?_)
        refine wc_seq ?_; intro K19 hK19
        refine wc_block ?_
        refine wc_region ?_
        refine wl_y (y_qq rfl Pf.pp B15) rfl ?_
        refine wl_y (y_qq rfl Pp B9) rfl ?_
        refine wl_call Try.func71 rfl rfl rfl (Padd_any Pf.pp Pp (Ed.on_mul op i) op _) rfl ?_
        rintro e w23 ⟨cg3, rfl, P23, ex⟩
        refine ⟨_, rfl, ?_⟩
        replace E := E.ext ex
        replace B9 := B9.ext ex
        replace B11 := B11.ext ex
        replace B12 := B12.ext ex
        replace B13 := B13.ext ex
        replace B14 := B14.ext ex
        replace B15 := B15.ext ex
        skip
        refine wl_ef (ef_storeW rfl rfl (by rw [P23.size]; kernel_rfl) B15 (by rw [Pf.size, P23.size]) P23.one) rfl ?_
        rintro _ w24 ⟨rfl, D15, cg⟩
        replace E := E.chg cg (by omega); replace B9 := B9.chg cg (by omega); replace B11 := B11.chg cg (by omega); replace B12 := B12.chg cg (by omega); replace B13 := B13.chg cg (by omega); replace B14 := B14.chg cg (by omega); replace B15 := D15
        refine wl_nil ?_
        refine wq_blk_norm ?_
        refine wq_then_norm (hK19 ?_)
        refine wc_region ?_
        refine wl_y (y_move rfl) rfl ?_
        refine wl_y (y_add rfl rfl (i64_ok (by omega) (by omega))) rfl ?_
        refine wl_y (y_assign rfl) rfl ?_
        refine wl_nil ?_
        refine wq_then_norm ?_
        refine hL1 _ _ ⟨i + 1, cg3, rfl, rfl, by omega, P23, E, B9, B11, B12, B13, B14, B15⟩ (by omega) ⟨(by first | rfl | exact congrArg some (int_val (by omega))), rfl, rfl, rfl, rfl, rfl, rfl, (by first | rfl | exact congrArg some (int_val (by omega))), trivial⟩
      · skip
        refine wc_exit ?_
        refine wq_then_exit ?_
        refine wq_then_exit ?_
        refine wq_blk_hit ?_
        refine wq_then_norm (hK15 ?_)
        refine wc_seq ?_; intro K20 hK20
        refine wc_seq ?_; intro K21 hK21
        obtain rfl : i = v % 12 := by omega
        refine wc_draw (by kernel_rfl) 39 rfl ?_; intro wd16 ex hd16
        replace E := E.ext ex
        replace B9 := B9.ext ex
        replace B11 := B11.ext ex
        replace B12 := B12.ext ex
        replace B13 := B13.ext ex
        replace B14 := B14.ext ex
        replace B15 := B15.ext ex
        refine wm_y 0 rfl (by kernel_rfl) (y_qq rfl Pp B9) rfl ?_
        refine wm_y 1 rfl (by kernel_rfl) (y_move rfl) rfl ?_
        refine wm_y 2 rfl (by kernel_rfl) (y_rem rfl rfl (by omega) (show ((v : Nat) : Int).tmod 12 = (((UInt8.ofNat (v % 12)).toNat : Nat) : Int) by rw [u8_val (by omega)]; rfl)) rfl ?_
        refine wm_y 6 rfl (by kernel_rfl) (y_qq rfl Pf.pp B15) rfl ?_
        refine wm_one 3 (by kernel_rfl) ?_; refine om_ef rfl (ef_lit (z := .int .u8 0) Try.underlying22 (by kernel_rfl) rfl rfl rfl rfl rfl) rfl ?_
        rintro _ wa1 ⟨gm, rfl, Bm, hgm, ex⟩
        refine ⟨.inr ex, ?_⟩
        replace E := E.ext ex
        replace B9 := B9.ext ex
        replace B11 := B11.ext ex
        replace B12 := B12.ext ex
        replace B13 := B13.ext ex
        replace B14 := B14.ext ex
        replace B15 := B15.ext ex
        skip
        refine wm_one 4 (by kernel_rfl) ?_; refine om_call rfl Try.func78 rfl rfl rfl (sof_any (some ⟨gm, 0, none⟩) 1 1 [UInt8.ofNat (v % 12)] _ (bs_blk' (xs := [UInt8.ofNat (v % 12)]) (Bm.congr (by rfl)) rfl) (by omega)) rfl ?_
        rintro e wa2 ⟨rfl, ex⟩
        refine ⟨_, rfl, .inr ex, ?_⟩
        replace E := E.ext ex
        replace B9 := B9.ext ex
        replace B11 := B11.ext ex
        replace B12 := B12.ext ex
        replace B13 := B13.ext ex
        replace B14 := B14.ext ex
        replace B15 := B15.ext ex
        replace Bm := Bm.ext ex
        rw [hvee]
        refine wm_one 5 (by kernel_rfl) ?_; refine om_call rfl Try.func79 rfl rfl rfl (Pmul_any Pp op (v % 12) hvl _) rfl ?_
        rintro e wa3 ⟨ca3, rfl, PV, ex⟩
        refine ⟨_, rfl, .inr ex, ?_⟩
        replace E := E.ext ex
        replace B9 := B9.ext ex
        replace B11 := B11.ext ex
        replace B12 := B12.ext ex
        replace B13 := B13.ext ex
        replace B14 := B14.ext ex
        replace B15 := B15.ext ex
        replace Bm := Bm.ext ex
        skip
        refine wm_one 7 (by kernel_rfl) ?_; refine om_call rfl Try.func65 rfl rfl rfl (Psame_any PV.pp Pf.pp _) rfl ?_
        rintro e wa4 ⟨rfl, ex⟩
        refine ⟨_, rfl, .inr ex, ?_⟩
        replace E := E.ext ex
        replace B9 := B9.ext ex
        replace B11 := B11.ext ex
        replace B12 := B12.ext ex
        replace B13 := B13.ext ex
        replace B14 := B14.ext ex
        replace B15 := B15.ext ex
        replace Bm := Bm.ext ex
        rw [decide_eq_true (Eq.refl (Ed.mul (v % 12) P))]
        refine wm_y 8 rfl (by kernel_rfl) (y_not rfl) rfl ?_
        refine wm_y 9 rfl (by kernel_rfl) (y_move rfl) rfl ?_
        refine wm_gy 10 rfl (by kernel_rfl) 62 rfl rfl (y_qq rfl Pb.pp B11) rfl ?_
        refine wm_gy 11 rfl (by kernel_rfl) 62 rfl rfl (y_ws rfl B12) rfl ?_
        refine wm_gy 12 rfl (by kernel_rfl) 62 rfl rfl (y_ws rfl B13) rfl ?_
        refine wm_gy 15 rfl (by kernel_rfl) 62 rfl rfl (y_qq rfl Pb.pp B11) rfl ?_
        refine wm_gy 16 rfl (by kernel_rfl) 62 rfl rfl (y_ws rfl B12) rfl ?_
        refine wm_gy 18 rfl (by kernel_rfl) 62 rfl rfl (y_qq rfl Pb.pp B11) rfl ?_
        refine wm_gy 19 rfl (by kernel_rfl) 62 rfl rfl (y_ws rfl B13) rfl ?_
        refine wm_one 13 (by kernel_rfl) ?_; refine om_gcall rfl 62 rfl rfl Try.func80 rfl rfl rfl (Sadd_any S T _ hSl hTl) rfl ?_
        rintro e wb1 ⟨rfl, ex⟩
        refine ⟨_, rfl, .inr ex, ?_⟩
        replace E := E.ext ex
        replace B9 := B9.ext ex
        replace B11 := B11.ext ex
        replace B12 := B12.ext ex
        replace B13 := B13.ext ex
        replace B14 := B14.ext ex
        replace B15 := B15.ext ex
        replace Bm := Bm.ext ex
        skip
        refine wm_one 14 (by kernel_rfl) ?_; refine om_gcall rfl 62 rfl rfl Try.func79 rfl rfl rfl (Pmul_any Pb.pp Ed.on_B ((S + T) % Sc.L) (Nat.mod_lt _ hLp) _) rfl ?_
        rintro e wb2 ⟨cb2, rfl, Q1, ex⟩
        refine ⟨_, rfl, .inr ex, ?_⟩
        replace E := E.ext ex
        replace B9 := B9.ext ex
        replace B11 := B11.ext ex
        replace B12 := B12.ext ex
        replace B13 := B13.ext ex
        replace B14 := B14.ext ex
        replace B15 := B15.ext ex
        replace Bm := Bm.ext ex
        skip
        refine wm_one 17 (by kernel_rfl) ?_; refine om_gcall rfl 62 rfl rfl Try.func79 rfl rfl rfl (Pmul_any Pb.pp Ed.on_B S hSl _) rfl ?_
        rintro e wb3 ⟨cb3, rfl, Q2, ex⟩
        refine ⟨_, rfl, .inr ex, ?_⟩
        replace E := E.ext ex
        replace B9 := B9.ext ex
        replace B11 := B11.ext ex
        replace B12 := B12.ext ex
        replace B13 := B13.ext ex
        replace B14 := B14.ext ex
        replace B15 := B15.ext ex
        replace Bm := Bm.ext ex
        skip
        refine wm_one 20 (by kernel_rfl) ?_; refine om_gcall rfl 62 rfl rfl Try.func79 rfl rfl rfl (Pmul_any Pb.pp Ed.on_B T hTl _) rfl ?_
        rintro e wb4 ⟨cb4, rfl, Q3, ex⟩
        refine ⟨_, rfl, .inr ex, ?_⟩
        replace E := E.ext ex
        replace B9 := B9.ext ex
        replace B11 := B11.ext ex
        replace B12 := B12.ext ex
        replace B13 := B13.ext ex
        replace B14 := B14.ext ex
        replace B15 := B15.ext ex
        replace Bm := Bm.ext ex
        skip
        refine wm_one 21 (by kernel_rfl) ?_; refine om_gcall rfl 62 rfl rfl Try.func71 rfl rfl rfl (Padd_any Q2.pp Q3.pp (Ed.on_mul Ed.on_B S) (Ed.on_mul Ed.on_B T) _) rfl ?_
        rintro e wb5 ⟨cb5, rfl, Q4, ex⟩
        refine ⟨_, rfl, .inr ex, ?_⟩
        replace E := E.ext ex
        replace B9 := B9.ext ex
        replace B11 := B11.ext ex
        replace B12 := B12.ext ex
        replace B13 := B13.ext ex
        replace B14 := B14.ext ex
        replace B15 := B15.ext ex
        replace Bm := Bm.ext ex
        skip
        refine wm_one 22 (by kernel_rfl) ?_; refine om_gcall rfl 62 rfl rfl Try.func65 rfl rfl rfl (Psame_any Q1.pp Q4.pp _) rfl ?_
        rintro e wb6 ⟨rfl, ex⟩
        refine ⟨_, rfl, .inr ex, ?_⟩
        replace E := E.ext ex
        replace B9 := B9.ext ex
        replace B11 := B11.ext ex
        replace B12 := B12.ext ex
        replace B13 := B13.ext ex
        replace B14 := B14.ext ex
        replace B15 := B15.ext ex
        replace Bm := Bm.ext ex
        rw [decide_eq_true (Ed.mulB_add S T)]
        refine wm_gy 23 rfl (by kernel_rfl) 62 rfl rfl (y_not rfl) rfl ?_
        refine wm_y 24 rfl (by kernel_rfl) (y_pickf rfl rfl) rfl ?_
        refine wm_y 25 rfl (by kernel_rfl) (y_move rfl) rfl ?_
        refine wm_gy 26 rfl (by kernel_rfl) 78 rfl rfl (y_qq rfl Pb.pp B11) rfl ?_
        refine wm_gy 27 rfl (by kernel_rfl) 78 rfl rfl (y_ws rfl B12) rfl ?_
        refine wm_gy 28 rfl (by kernel_rfl) 78 rfl rfl (y_ws rfl B13) rfl ?_
        refine wm_gy 31 rfl (by kernel_rfl) 78 rfl rfl (y_qq rfl Pb.pp B11) rfl ?_
        refine wm_gy 32 rfl (by kernel_rfl) 78 rfl rfl (y_ws rfl B12) rfl ?_
        refine wm_gy 34 rfl (by kernel_rfl) 78 rfl rfl (y_ws rfl B13) rfl ?_
        refine wm_one 29 (by kernel_rfl) ?_; refine om_gcall rfl 78 rfl rfl Try.func81 rfl rfl rfl (Smul_any S T _ hSl hTl) rfl ?_
        rintro e wc1 ⟨rfl, ex⟩
        refine ⟨_, rfl, .inr ex, ?_⟩
        replace E := E.ext ex
        replace B9 := B9.ext ex
        replace B11 := B11.ext ex
        replace B12 := B12.ext ex
        replace B13 := B13.ext ex
        replace B14 := B14.ext ex
        replace B15 := B15.ext ex
        replace Bm := Bm.ext ex
        skip
        refine wm_one 30 (by kernel_rfl) ?_; refine om_gcall rfl 78 rfl rfl Try.func79 rfl rfl rfl (Pmul_any Pb.pp Ed.on_B (S * T % Sc.L) (Nat.mod_lt _ hLp) _) rfl ?_
        rintro e wc2 ⟨cc2, rfl, Q5, ex⟩
        refine ⟨_, rfl, .inr ex, ?_⟩
        replace E := E.ext ex
        replace B9 := B9.ext ex
        replace B11 := B11.ext ex
        replace B12 := B12.ext ex
        replace B13 := B13.ext ex
        replace B14 := B14.ext ex
        replace B15 := B15.ext ex
        replace Bm := Bm.ext ex
        skip
        refine wm_one 33 (by kernel_rfl) ?_; refine om_gcall rfl 78 rfl rfl Try.func79 rfl rfl rfl (Pmul_any Pb.pp Ed.on_B S hSl _) rfl ?_
        rintro e wc3 ⟨cc3, rfl, Q6, ex⟩
        refine ⟨_, rfl, .inr ex, ?_⟩
        replace E := E.ext ex
        replace B9 := B9.ext ex
        replace B11 := B11.ext ex
        replace B12 := B12.ext ex
        replace B13 := B13.ext ex
        replace B14 := B14.ext ex
        replace B15 := B15.ext ex
        replace Bm := Bm.ext ex
        skip
        refine wm_one 35 (by kernel_rfl) ?_; refine om_gcall rfl 78 rfl rfl Try.func79 rfl rfl rfl (Pmul_any Q6.pp (Ed.on_mul Ed.on_B S) T hTl _) rfl ?_
        rintro e wc4 ⟨cc4, rfl, Q7, ex⟩
        refine ⟨_, rfl, .inr ex, ?_⟩
        replace E := E.ext ex
        replace B9 := B9.ext ex
        replace B11 := B11.ext ex
        replace B12 := B12.ext ex
        replace B13 := B13.ext ex
        replace B14 := B14.ext ex
        replace B15 := B15.ext ex
        replace Bm := Bm.ext ex
        skip
        refine wm_one 36 (by kernel_rfl) ?_; refine om_gcall rfl 78 rfl rfl Try.func65 rfl rfl rfl (Psame_any Q5.pp Q7.pp _) rfl ?_
        rintro e wc5 ⟨rfl, ex⟩
        refine ⟨_, rfl, .inr ex, ?_⟩
        replace E := E.ext ex
        replace B9 := B9.ext ex
        replace B11 := B11.ext ex
        replace B12 := B12.ext ex
        replace B13 := B13.ext ex
        replace B14 := B14.ext ex
        replace B15 := B15.ext ex
        replace Bm := Bm.ext ex
        rw [decide_eq_true (Ed.mulB_mul S T)]
        refine wm_gy 37 rfl (by kernel_rfl) 78 rfl rfl (y_not rfl) rfl ?_
        refine wm_y 38 rfl (by kernel_rfl) (y_pickf rfl rfl) rfl ?_
        refine wm_done (by kernel_rfl) ?_
        refine wq_nop ?_
        refine wq_then_norm (hK21 ?_)
        refine wc_false rfl rfl ?_
        refine wc_skip ?_
        refine wq_then_norm (hK20 ?_)
        refine wc_seq ?_; intro K22 hK22
        refine wc_draw (by kernel_rfl) 40 rfl ?_; intro wd18 ex hd18
        replace E := E.ext ex
        replace B9 := B9.ext ex
        replace B11 := B11.ext ex
        replace B12 := B12.ext ex
        replace B13 := B13.ext ex
        replace B14 := B14.ext ex
        replace B15 := B15.ext ex
        replace Bm := Bm.ext ex
        refine wm_y 0 rfl (by kernel_rfl) (y_qq rfl Pb.pp B11) rfl ?_
        refine wm_y 1 rfl (by kernel_rfl) (y_ws rfl B14) rfl ?_
        refine wm_y 4 rfl (by kernel_rfl) (y_qq rfl Pb.pp B11) rfl ?_
        refine wm_one 2 (by kernel_rfl) ?_; refine om_call rfl Try.func82 rfl rfl rfl (Sneg_any 1 _ h1l) rfl ?_
        rintro e wd1 ⟨rfl, ex⟩
        refine ⟨_, rfl, .inr ex, ?_⟩
        replace E := E.ext ex
        replace B9 := B9.ext ex
        replace B11 := B11.ext ex
        replace B12 := B12.ext ex
        replace B13 := B13.ext ex
        replace B14 := B14.ext ex
        replace B15 := B15.ext ex
        replace Bm := Bm.ext ex
        skip
        refine wm_one 3 (by kernel_rfl) ?_; refine om_call rfl Try.func79 rfl rfl rfl (Pmul_any Pb.pp Ed.on_B ((Sc.L - 1) % Sc.L) (Nat.mod_lt _ hLp) _) rfl ?_
        rintro e wd2 ⟨cd2, rfl, Q8, ex⟩
        refine ⟨_, rfl, .inr ex, ?_⟩
        replace E := E.ext ex
        replace B9 := B9.ext ex
        replace B11 := B11.ext ex
        replace B12 := B12.ext ex
        replace B13 := B13.ext ex
        replace B14 := B14.ext ex
        replace B15 := B15.ext ex
        replace Bm := Bm.ext ex
        skip
        refine wm_one 5 (by kernel_rfl) ?_; refine om_call rfl Try.func71 rfl rfl rfl (Padd_any Q8.pp Pb.pp (Ed.on_mul Ed.on_B _) Ed.on_B _) rfl ?_
        rintro e wd3 ⟨cd3, rfl, Q9, ex⟩
        refine ⟨_, rfl, .inr ex, ?_⟩
        replace E := E.ext ex
        replace B9 := B9.ext ex
        replace B11 := B11.ext ex
        replace B12 := B12.ext ex
        replace B13 := B13.ext ex
        replace B14 := B14.ext ex
        replace B15 := B15.ext ex
        replace Bm := Bm.ext ex
        skip
        refine wm_one 6 (by kernel_rfl) ?_; refine om_call rfl Try.func66 rfl rfl rfl (pnothing_any _) rfl ?_
        rintro e wd4 ⟨cd4, rfl, QO, ex⟩
        refine ⟨_, rfl, .inr ex, ?_⟩
        replace E := E.ext ex
        replace B9 := B9.ext ex
        replace B11 := B11.ext ex
        replace B12 := B12.ext ex
        replace B13 := B13.ext ex
        replace B14 := B14.ext ex
        replace B15 := B15.ext ex
        replace Bm := Bm.ext ex
        skip
        refine wm_one 7 (by kernel_rfl) ?_; refine om_call rfl Try.func65 rfl rfl rfl (Psame_any Q9.pp QO.pp _) rfl ?_
        rintro e wd5 ⟨rfl, ex⟩
        refine ⟨_, rfl, .inr ex, ?_⟩
        replace E := E.ext ex
        replace B9 := B9.ext ex
        replace B11 := B11.ext ex
        replace B12 := B12.ext ex
        replace B13 := B13.ext ex
        replace B14 := B14.ext ex
        replace B15 := B15.ext ex
        replace Bm := Bm.ext ex
        rw [decide_eq_true Ed.mulB_last]
        refine wm_y 8 rfl (by kernel_rfl) (y_move rfl) rfl ?_
        refine wm_gy 9 rfl (by kernel_rfl) 100 rfl rfl (y_qq rfl Pb.pp B11) rfl ?_
        refine wm_gy 10 rfl (by kernel_rfl) 100 rfl rfl (y_ws rfl B12) rfl ?_
        refine wm_gy 13 rfl (by kernel_rfl) 100 rfl rfl (y_qq rfl Pb.pp B11) rfl ?_
        refine wm_gy 14 rfl (by kernel_rfl) 100 rfl rfl (y_ws rfl B12) rfl ?_
        refine wm_one 11 (by kernel_rfl) ?_; refine om_gcall rfl 100 rfl rfl Try.func82 rfl rfl rfl (Sneg_any S _ hSl) rfl ?_
        rintro e we1 ⟨rfl, ex⟩
        refine ⟨_, rfl, .inr ex, ?_⟩
        replace E := E.ext ex
        replace B9 := B9.ext ex
        replace B11 := B11.ext ex
        replace B12 := B12.ext ex
        replace B13 := B13.ext ex
        replace B14 := B14.ext ex
        replace B15 := B15.ext ex
        replace Bm := Bm.ext ex
        skip
        refine wm_one 12 (by kernel_rfl) ?_; refine om_gcall rfl 100 rfl rfl Try.func79 rfl rfl rfl (Pmul_any Pb.pp Ed.on_B ((Sc.L - S) % Sc.L) (Nat.mod_lt _ hLp) _) rfl ?_
        rintro e we2 ⟨ce2, rfl, R1, ex⟩
        refine ⟨_, rfl, .inr ex, ?_⟩
        replace E := E.ext ex
        replace B9 := B9.ext ex
        replace B11 := B11.ext ex
        replace B12 := B12.ext ex
        replace B13 := B13.ext ex
        replace B14 := B14.ext ex
        replace B15 := B15.ext ex
        replace Bm := Bm.ext ex
        skip
        refine wm_one 15 (by kernel_rfl) ?_; refine om_gcall rfl 100 rfl rfl Try.func79 rfl rfl rfl (Pmul_any Pb.pp Ed.on_B S hSl _) rfl ?_
        rintro e we3 ⟨ce3, rfl, R2, ex⟩
        refine ⟨_, rfl, .inr ex, ?_⟩
        replace E := E.ext ex
        replace B9 := B9.ext ex
        replace B11 := B11.ext ex
        replace B12 := B12.ext ex
        replace B13 := B13.ext ex
        replace B14 := B14.ext ex
        replace B15 := B15.ext ex
        replace Bm := Bm.ext ex
        skip
        refine wm_one 16 (by kernel_rfl) ?_; refine om_gcall rfl 100 rfl rfl Try.func76 rfl rfl rfl (Pneg_any R2.pp _) rfl ?_
        rintro e we4 ⟨ce4, rfl, R3, ex⟩
        refine ⟨_, rfl, .inr ex, ?_⟩
        replace E := E.ext ex
        replace B9 := B9.ext ex
        replace B11 := B11.ext ex
        replace B12 := B12.ext ex
        replace B13 := B13.ext ex
        replace B14 := B14.ext ex
        replace B15 := B15.ext ex
        replace Bm := Bm.ext ex
        skip
        refine wm_one 17 (by kernel_rfl) ?_; refine om_gcall rfl 100 rfl rfl Try.func65 rfl rfl rfl (Psame_any R1.pp R3.pp _) rfl ?_
        rintro e we5 ⟨rfl, ex⟩
        refine ⟨_, rfl, .inr ex, ?_⟩
        replace E := E.ext ex
        replace B9 := B9.ext ex
        replace B11 := B11.ext ex
        replace B12 := B12.ext ex
        replace B13 := B13.ext ex
        replace B14 := B14.ext ex
        replace B15 := B15.ext ex
        replace Bm := Bm.ext ex
        rw [decide_eq_true (Ed.mulB_neg hSl)]
        refine wm_y 18 rfl (by kernel_rfl) (y_pickt rfl rfl) rfl ?_
        refine wm_y 19 rfl (by kernel_rfl) (y_move rfl) rfl ?_
        refine wm_gy 20 rfl (by kernel_rfl) 111 rfl rfl (y_qq rfl Pp B9) rfl ?_
        refine wm_gy 21 rfl (by kernel_rfl) 111 rfl rfl (y_build rfl (cells := ws z4) (by kernel_rfl)) rfl ?_
        refine wm_gy 23 rfl (by kernel_rfl) 111 rfl rfl (y_build rfl (cells := pc zf zf zf zf false) (by kernel_rfl)) rfl ?_
        rw [← ws_zero]
        refine wm_one 22 (by kernel_rfl) ?_; refine om_gcall rfl 111 rfl rfl Try.func79 rfl rfl rfl (Pmul_any Pp op 0 hLp _) rfl ?_
        rintro e wf1 ⟨cf1, rfl, R4, ex⟩
        refine ⟨_, rfl, .inr ex, ?_⟩
        replace E := E.ext ex
        replace B9 := B9.ext ex
        replace B11 := B11.ext ex
        replace B12 := B12.ext ex
        replace B13 := B13.ext ex
        replace B14 := B14.ext ex
        replace B15 := B15.ext ex
        replace Bm := Bm.ext ex
        skip
        refine wm_one 24 (by kernel_rfl) ?_; refine om_gcall rfl 111 rfl rfl Try.func65 rfl rfl rfl (Psame_any R4.pp PP.zero _) rfl ?_
        rintro e wf2 ⟨rfl, ex⟩
        refine ⟨_, rfl, .inr ex, ?_⟩
        replace E := E.ext ex
        replace B9 := B9.ext ex
        replace B11 := B11.ext ex
        replace B12 := B12.ext ex
        replace B13 := B13.ext ex
        replace B14 := B14.ext ex
        replace B15 := B15.ext ex
        replace Bm := Bm.ext ex
        rw [decide_eq_true (show Ed.mul 0 P = Ed.O from rfl)]
        refine wm_y 25 rfl (by kernel_rfl) (y_pickt rfl rfl) rfl ?_
        refine wm_y 26 rfl (by kernel_rfl) (y_move rfl) rfl ?_
        refine wm_gy 27 rfl (by kernel_rfl) 118 rfl rfl (y_qq rfl Pp B9) rfl ?_
        refine wm_gy 28 rfl (by kernel_rfl) 118 rfl rfl (y_ws rfl B14) rfl ?_
        refine wm_gy 30 rfl (by kernel_rfl) 118 rfl rfl (y_qq rfl Pp B9) rfl ?_
        refine wm_one 29 (by kernel_rfl) ?_; refine om_gcall rfl 118 rfl rfl Try.func79 rfl rfl rfl (Pmul_any Pp op 1 h1l _) rfl ?_
        rintro e wf3 ⟨cf3, rfl, R5, ex⟩
        refine ⟨_, rfl, .inr ex, ?_⟩
        replace E := E.ext ex
        replace B9 := B9.ext ex
        replace B11 := B11.ext ex
        replace B12 := B12.ext ex
        replace B13 := B13.ext ex
        replace B14 := B14.ext ex
        replace B15 := B15.ext ex
        replace Bm := Bm.ext ex
        skip
        refine wm_one 31 (by kernel_rfl) ?_; refine om_gcall rfl 118 rfl rfl Try.func65 rfl rfl rfl (Psame_any R5.pp Pp _) rfl ?_
        rintro e wf4 ⟨rfl, ex⟩
        refine ⟨_, rfl, .inr ex, ?_⟩
        replace E := E.ext ex
        replace B9 := B9.ext ex
        replace B11 := B11.ext ex
        replace B12 := B12.ext ex
        replace B13 := B13.ext ex
        replace B14 := B14.ext ex
        replace B15 := B15.ext ex
        replace Bm := Bm.ext ex
        rw [decide_eq_true (Ed.mul_one P)]
        refine wm_y 32 rfl (by kernel_rfl) (y_pickt rfl rfl) rfl ?_
        refine wm_y 33 rfl (by kernel_rfl) (y_move rfl) rfl ?_
        refine wm_gy 34 rfl (by kernel_rfl) 125 rfl rfl (y_qq rfl Pb.pp B11) rfl ?_
        refine wm_gy 35 rfl (by kernel_rfl) 125 rfl rfl (y_ws rfl B12) rfl ?_
        refine wm_one 36 (by kernel_rfl) ?_; refine om_gcall rfl 125 rfl rfl Try.func79 rfl rfl rfl (Pmul_any Pb.pp Ed.on_B S hSl _) rfl ?_
        rintro e wf5 ⟨cf5, rfl, R6, ex⟩
        refine ⟨_, rfl, .inr ex, ?_⟩
        replace E := E.ext ex
        replace B9 := B9.ext ex
        replace B11 := B11.ext ex
        replace B12 := B12.ext ex
        replace B13 := B13.ext ex
        replace B14 := B14.ext ex
        replace B15 := B15.ext ex
        replace Bm := Bm.ext ex
        skip
        refine wm_one 37 (by kernel_rfl) ?_; refine om_gcall rfl 125 rfl rfl Try.func70 rfl rfl rfl (Pright_any R6.pp (Ed.on_mul Ed.on_B S) _) rfl ?_
        rintro e wf6 ⟨rfl, ex⟩
        refine ⟨_, rfl, .inr ex, ?_⟩
        replace E := E.ext ex
        replace B9 := B9.ext ex
        replace B11 := B11.ext ex
        replace B12 := B12.ext ex
        replace B13 := B13.ext ex
        replace B14 := B14.ext ex
        replace B15 := B15.ext ex
        replace Bm := Bm.ext ex
        skip
        refine wm_y 38 rfl (by kernel_rfl) (y_pickt rfl rfl) rfl ?_
        refine wm_y 39 rfl (by kernel_rfl) (y_assign rfl) rfl ?_
        refine wm_done (by kernel_rfl) ?_
        refine wq_nop ?_
        refine wq_then_norm (hK22 ?_)
        refine wc_ret ?_
        refine hret rfl ?_
        exact ⟨rfl, E⟩
end Go.Proofs.Ytbcbihdfpkeacaa
