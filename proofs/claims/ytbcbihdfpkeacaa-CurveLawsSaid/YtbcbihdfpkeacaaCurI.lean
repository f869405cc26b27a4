/- The law CurveLaws: it answers true whatever it is given. -/
import Derived.Test.YtbcbihdfpkeacaaCurH
namespace Go.Proofs.Ytbcbihdfpkeacaa
open Go.RowKit
attribute [local irreducible] Y Ef WL WC WK WQ WM OpM WN WF OpN
theorem dec_onD (xs : List UInt8) : Ed.On ((Ed.dec xs).getD Ed.O) := by
  cases h : Ed.dec xs with
  | none => exact Ed.on_O
  | some P => exact Ed.dec_on h
theorem y_qq {L : List (Nat × Value)} {w : World} {ty e : TypeId} {x : Operand} {g : Nat} {cs : Array Value} {P : Fp.F × Fp.F} (hx : ev L x = some (.pointer (some ⟨g, 0, none⟩))) (h : PP cs P) (B : Blk w g e cs) : Y Try.prog L w (.load 67 x) ty (.agg cs) := y_loadw hx Try.underlying67 rfl (by rw [h.size]; kernel_rfl) B
set_option maxHeartbeats 2000000 in
theorem curveLaws_law (A : Option Addr) (n c : Nat) (xs : List UInt8) (B : Option Addr) (m d : Nat) (ys : List UInt8) (C : Option Addr) (k f : Nat) (zs : List UInt8) (w : World) (HA : Bs w A n xs) (_hn : n ≤ maxLen) (HB : Bs w B m ys) (_hm : m ≤ maxLen) (HC : Bs w C k zs) (_hk : k ≤ maxLen) :
    Calls Try.prog 13 #[.slice A n c, .slice B m d, .slice C k f] w fun e w' => e = .returned (.bool true) ∧ Below w.heap.size w w' := by
  have E := Ext.refl w
  refine vc_enter1 125 Try.func13 rfl rfl rfl rfl ?_
  intro Q hret
  refine wc_seq ?_; intro K1 hK1
  refine wc_region ?_
  refine wl_y (y_assign rfl) rfl ?_
  refine wl_nil ?_
  refine wq_then_norm (hK1 ?_)
  refine wc_seq ?_; intro K2 hK2
  refine wc_seq ?_; intro K3 hK3
  refine wc_region ?_
  refine wl_call Try.func63 rfl rfl rfl (alive9_any _) rfl ?_
  rintro e w1 ⟨rfl, ex⟩
  refine ⟨_, rfl, ?_⟩
  replace E := E.ext ex
  refine wl_y (y_not rfl) rfl ?_
  refine wl_nil ?_
  refine wq_then_norm (hK3 ?_)
  refine wc_false rfl rfl ?_
  refine wc_skip ?_
  refine wq_then_norm (hK2 ?_)
  refine wc_seq ?_; intro K4 hK4
  refine wc_region ?_
  refine wl_y (y_move rfl) rfl ?_
  refine wl_call Try.func64 rfl rfl rfl (Pof_any A n c xs _ (HA.ext E)) rfl ?_
  rintro e w2 ⟨c7, rfl, P7, ex⟩
  refine ⟨_, rfl, ?_⟩
  replace E := E.ext ex
  have o7 := dec_onD xs
  refine wl_y (y_move rfl) rfl ?_
  refine wl_y (y_extract rfl rfl) rfl ?_
  refine wl_y (y_extract rfl rfl) rfl ?_
  have hz7 := E.size
  refine wl_ef (ef_alloc (Z := pc zf zf zf zf false) (by kernel_rfl)) rfl ?_
  rintro _ w3 ⟨g7, rfl, B7, hg7, ex⟩
  replace E := E.ext ex
  skip
  refine wl_ef (ef_storeW rfl rfl (by rw [P7.size]; kernel_rfl) B7 (by rw [pc_size, P7.size]) P7.one) rfl ?_
  rintro _ w4 ⟨rfl, D7, cg⟩
  replace E := E.chg cg (by omega); replace B7 := D7
  refine wl_y (y_assign rfl) rfl ?_
  refine wl_nil ?_
  refine wq_then_norm (hK4 ?_)
  refine wc_seq ?_; intro K5 hK5
  refine wc_region ?_
  refine wl_y (y_move rfl) rfl ?_
  refine wl_call Try.func64 rfl rfl rfl (Pof_any B m d ys _ (HB.ext E)) rfl ?_
  rintro e w5 ⟨c9, rfl, P9, ex⟩
  refine ⟨_, rfl, ?_⟩
  replace E := E.ext ex
  replace B7 := B7.ext ex
  have o9 := dec_onD ys
  refine wl_y (y_move rfl) rfl ?_
  refine wl_y (y_extract rfl rfl) rfl ?_
  refine wl_y (y_extract rfl rfl) rfl ?_
  have hz9 := E.size; have hl79 := B7.lt
  refine wl_ef (ef_alloc (Z := pc zf zf zf zf false) (by kernel_rfl)) rfl ?_
  rintro _ w6 ⟨g9, rfl, B9, hg9, ex⟩
  replace E := E.ext ex
  replace B7 := B7.ext ex
  skip
  refine wl_ef (ef_storeW rfl rfl (by rw [P9.size]; kernel_rfl) B9 (by rw [pc_size, P9.size]) P9.one) rfl ?_
  rintro _ w7 ⟨rfl, D9, cg⟩
  replace E := E.chg cg (by omega); replace B7 := B7.chg cg (by omega); replace B9 := D9
  refine wl_y (y_assign rfl) rfl ?_
  refine wl_nil ?_
  refine wq_then_norm (hK5 ?_)
  refine wc_seq ?_; intro K6 hK6
  refine wc_region ?_
  refine wl_y (y_move rfl) rfl ?_
  refine wl_call Try.func64 rfl rfl rfl (Pof_any C k f zs _ (HC.ext E)) rfl ?_
  rintro e w8 ⟨c11, rfl, P11, ex⟩
  refine ⟨_, rfl, ?_⟩
  replace E := E.ext ex
  replace B7 := B7.ext ex
  replace B9 := B9.ext ex
  have o11 := dec_onD zs
  refine wl_y (y_move rfl) rfl ?_
  refine wl_y (y_extract rfl rfl) rfl ?_
  refine wl_y (y_extract rfl rfl) rfl ?_
  have hz11 := E.size; have hl711 := B7.lt; have hl911 := B9.lt
  refine wl_ef (ef_alloc (Z := pc zf zf zf zf false) (by kernel_rfl)) rfl ?_
  rintro _ w9 ⟨g11, rfl, B11, hg11, ex⟩
  replace E := E.ext ex
  replace B7 := B7.ext ex
  replace B9 := B9.ext ex
  skip
  refine wl_ef (ef_storeW rfl rfl (by rw [P11.size]; kernel_rfl) B11 (by rw [pc_size, P11.size]) P11.one) rfl ?_
  rintro _ w10 ⟨rfl, D11, cg⟩
  replace E := E.chg cg (by omega); replace B7 := B7.chg cg (by omega); replace B9 := B9.chg cg (by omega); replace B11 := D11; have h79 : g7 ≠ g9 := (by omega); have h711 : g7 ≠ g11 := (by omega); have h911 : g9 ≠ g11 := (by omega); have hw7 : w.heap.size ≤ g7 := (by omega); have hw9 : w.heap.size ≤ g9 := (by omega); have hw11 : w.heap.size ≤ g11 := (by omega)
  refine wl_y (y_assign rfl) rfl ?_
  refine wl_nil ?_
  refine wq_then_norm (hK6 ?_)
  refine wc_seq ?_; intro K7 hK7
  refine wc_seq ?_; intro K8 hK8
  refine wc_region ?_
  refine wl_y (y_move rfl) rfl ?_
  refine wl_y (y_not rfl) rfl ?_
  refine wl_nil ?_
  refine wq_then_norm (hK8 ?_)
  refine wc_join (fun L wj2 => ∃ (cs : Array Value) (P : Fp.F × Fp.F), L = [(7, .pointer (some ⟨g7, 0, none⟩)), (9, .pointer (some ⟨g9, 0, none⟩)), (10, .bool (Ed.dec ys).isSome), (11, .pointer (some ⟨g11, 0, none⟩)), (12, .bool (Ed.dec zs).isSome)] ∧ (PP cs P ∧ Ed.On P ∧ Ext w wj2 ∧ Blk wj2 g7 67 cs ∧ Blk wj2 g9 67 c9 ∧ Blk wj2 g11 67 c11)) ?_ ?_
  · skip
    refine wc_cond rfl (fun hc2 => ?_) (fun hc2 => ?_)
    · skip
      refine wc_region ?_
      refine wl_call Try.func77 rfl rfl rfl (pbase_any _) rfl ?_
      rintro e w11 ⟨cb, rfl, Pb, ex⟩
      refine ⟨_, rfl, ?_⟩
      replace E := E.ext ex
      replace B7 := B7.ext ex
      replace B9 := B9.ext ex
      replace B11 := B11.ext ex
      skip
      refine wl_ef (ef_storeW rfl rfl (by rw [Pb.size]; kernel_rfl) B7 (by rw [P7.size, Pb.size]) Pb.one) rfl ?_
      rintro _ w12 ⟨rfl, D7, cg⟩
      replace E := E.chg cg hw7; replace B9 := B9.chg cg (by omega); replace B11 := B11.chg cg (by omega); replace B7 := D7; replace P7 := Pb.pp; replace o7 := Ed.on_B
      refine wl_nil ?_
      exact wq_join _ ⟨_, _, rfl, P7, o7, E, B7, B9, B11⟩ ⟨rfl, rfl, rfl, rfl, rfl, trivial⟩
    · skip
      refine wc_skip ?_
      exact wq_join _ ⟨_, _, rfl, P7, o7, E, B7, B9, B11⟩ ⟨rfl, rfl, rfl, rfl, rfl, trivial⟩
  rintro L wj2 ⟨cs, P, rfl, Pp, op, E, B7, B9, B11⟩
  refine wq_then_norm (hK7 ?_)
  refine wc_seq ?_; intro K9 hK9
  refine wc_seq ?_; intro K10 hK10
  refine wc_region ?_
  refine wl_y (y_move rfl) rfl ?_
  refine wl_y (y_not rfl) rfl ?_
  refine wl_nil ?_
  refine wq_then_norm (hK10 ?_)
  refine wc_join (fun L wj3 => ∃ (ct : Array Value) (Q : Fp.F × Fp.F), L = [(7, .pointer (some ⟨g7, 0, none⟩)), (9, .pointer (some ⟨g9, 0, none⟩)), (11, .pointer (some ⟨g11, 0, none⟩)), (12, .bool (Ed.dec zs).isSome)] ∧ (PP ct Q ∧ Ed.On Q ∧ Ext w wj3 ∧ Blk wj3 g7 67 cs ∧ Blk wj3 g9 67 ct ∧ Blk wj3 g11 67 c11)) ?_ ?_
  · skip
    refine wc_cond rfl (fun hc3 => ?_) (fun hc3 => ?_)
    · skip
      refine wc_draw (by kernel_rfl) 4 rfl ?_; intro wd9 ex hd9
      replace E := E.ext ex
      replace B7 := B7.ext ex
      replace B9 := B9.ext ex
      replace B11 := B11.ext ex
      refine wm_y 0 rfl (by kernel_rfl) (y_qq rfl Pp B7) rfl ?_
      refine wm_one 1 (by kernel_rfl) ?_; refine om_call rfl Try.func77 rfl rfl rfl (pbase_any _) rfl ?_
      rintro e w11 ⟨cb, rfl, Pb, ex⟩
      refine ⟨_, rfl, .inr ex, ?_⟩
      replace E := E.ext ex
      replace B7 := B7.ext ex
      replace B9 := B9.ext ex
      replace B11 := B11.ext ex
      skip
      refine wm_one 2 (by kernel_rfl) ?_; refine om_call rfl Try.func71 rfl rfl rfl (Padd_any Pp Pb.pp op Ed.on_B _) rfl ?_
      rintro e w12 ⟨cq, rfl, Pq, ex⟩
      refine ⟨_, rfl, .inr ex, ?_⟩
      replace E := E.ext ex
      replace B7 := B7.ext ex
      replace B9 := B9.ext ex
      replace B11 := B11.ext ex
      skip
      refine wm_one 3 (by kernel_rfl) ?_; refine om_ef rfl (ef_storeW rfl rfl (by rw [Pq.size]; kernel_rfl) B9 (by rw [P9.size, Pq.size]) Pq.one) rfl ?_
      rintro _ w13 ⟨rfl, D9, cg⟩
      refine ⟨.inl rfl, ?_⟩
      replace E := E.chg cg hw9; replace B7 := B7.chg cg (by omega); replace B11 := B11.chg cg (by omega); replace B9 := D9; replace P9 := Pq.pp; replace o9 := Ed.on_add op Ed.on_B
      refine wm_done (by kernel_rfl) ?_
      refine wq_nop ?_
      exact wq_join _ ⟨_, _, rfl, P9, o9, E, B7, B9, B11⟩ ⟨rfl, rfl, rfl, rfl, trivial⟩
    · skip
      refine wc_skip ?_
      exact wq_join _ ⟨_, _, rfl, P9, o9, E, B7, B9, B11⟩ ⟨rfl, rfl, rfl, rfl, trivial⟩
  rintro L wj3 ⟨ct, Q, rfl, Pq, oq, E, B7, B9, B11⟩
  refine wq_then_norm (hK9 ?_)
  refine wc_seq ?_; intro K11 hK11
  refine wc_seq ?_; intro K12 hK12
  refine wc_region ?_
  refine wl_y (y_move rfl) rfl ?_
  refine wl_y (y_not rfl) rfl ?_
  refine wl_nil ?_
  refine wq_then_norm (hK12 ?_)
  refine wc_join (fun L wj4 => ∃ (cu : Array Value) (R : Fp.F × Fp.F), L = [(7, .pointer (some ⟨g7, 0, none⟩)), (9, .pointer (some ⟨g9, 0, none⟩)), (11, .pointer (some ⟨g11, 0, none⟩))] ∧ (PP cu R ∧ Ed.On R ∧ Ext w wj4 ∧ Blk wj4 g7 67 cs ∧ Blk wj4 g9 67 ct ∧ Blk wj4 g11 67 cu)) ?_ ?_
  · skip
    refine wc_cond rfl (fun hc4 => ?_) (fun hc4 => ?_)
    · skip
      refine wc_region ?_
      refine wl_y (y_qq rfl Pq B9) rfl ?_
      refine wl_y (y_qq rfl Pp B7) rfl ?_
      refine wl_call Try.func71 rfl rfl rfl (Padd_any Pq Pp oq op _) rfl ?_
      rintro e w12 ⟨cr, rfl, Pr, ex⟩
      refine ⟨_, rfl, ?_⟩
      replace E := E.ext ex
      replace B7 := B7.ext ex
      replace B9 := B9.ext ex
      replace B11 := B11.ext ex
      skip
      refine wl_ef (ef_storeW rfl rfl (by rw [Pr.size]; kernel_rfl) B11 (by rw [P11.size, Pr.size]) Pr.one) rfl ?_
      rintro _ w13 ⟨rfl, D11, cg⟩
      replace E := E.chg cg hw11; replace B7 := B7.chg cg (by omega); replace B9 := B9.chg cg (by omega); replace B11 := D11; replace P11 := Pr.pp; replace o11 := Ed.on_add oq op
      refine wl_nil ?_
      exact wq_join _ ⟨_, _, rfl, P11, o11, E, B7, B9, B11⟩ ⟨rfl, rfl, rfl, trivial⟩
    · skip
      refine wc_skip ?_
      exact wq_join _ ⟨_, _, rfl, P11, o11, E, B7, B9, B11⟩ ⟨rfl, rfl, rfl, trivial⟩
  rintro L wj4 ⟨cu, R, rfl, Pr, or, E, B7, B9, B11⟩
  refine wq_then_norm (hK11 ?_)
  refine wc_seq ?_; intro K13 hK13
  refine wc_seq ?_; intro K14 hK14
  refine wc_draw (by kernel_rfl) 39 rfl ?_; intro wd12 ex hd12
  replace E := E.ext ex
  replace B7 := B7.ext ex
  replace B9 := B9.ext ex
  replace B11 := B11.ext ex
  refine wm_y 0 rfl (by kernel_rfl) (y_qq rfl Pp B7) rfl ?_
  refine wm_y 1 rfl (by kernel_rfl) (y_qq rfl Pq B9) rfl ?_
  refine wm_y 3 rfl (by kernel_rfl) (y_qq rfl Pq B9) rfl ?_
  refine wm_y 4 rfl (by kernel_rfl) (y_qq rfl Pp B7) rfl ?_
  refine wm_one 2 (by kernel_rfl) ?_; refine om_call rfl Try.func71 rfl rfl rfl (Padd_any Pp Pq op oq _) rfl ?_
  rintro e wa1 ⟨ca1, rfl, PQ, ex⟩
  refine ⟨_, rfl, .inr ex, ?_⟩
  replace E := E.ext ex
  replace B7 := B7.ext ex
  replace B9 := B9.ext ex
  replace B11 := B11.ext ex
  skip
  refine wm_one 5 (by kernel_rfl) ?_; refine om_call rfl Try.func71 rfl rfl rfl (Padd_any Pq Pp oq op _) rfl ?_
  rintro e wa2 ⟨ca2, rfl, QP, ex⟩
  refine ⟨_, rfl, .inr ex, ?_⟩
  replace E := E.ext ex
  replace B7 := B7.ext ex
  replace B9 := B9.ext ex
  replace B11 := B11.ext ex
  skip
  refine wm_one 6 (by kernel_rfl) ?_; refine om_call rfl Try.func65 rfl rfl rfl (Psame_any PQ.pp QP.pp _) rfl ?_
  rintro e wa3 ⟨rfl, ex⟩
  refine ⟨_, rfl, .inr ex, ?_⟩
  replace E := E.ext ex
  replace B7 := B7.ext ex
  replace B9 := B9.ext ex
  replace B11 := B11.ext ex
  rw [decide_eq_true (Ed.add_comm P Q)]
  refine wm_y 7 rfl (by kernel_rfl) (y_not rfl) rfl ?_
  refine wm_y 8 rfl (by kernel_rfl) (y_move rfl) rfl ?_
  refine wm_gy 9 rfl (by kernel_rfl) 53 rfl rfl (y_qq rfl Pp B7) rfl ?_
  refine wm_gy 10 rfl (by kernel_rfl) 53 rfl rfl (y_qq rfl Pq B9) rfl ?_
  refine wm_gy 12 rfl (by kernel_rfl) 53 rfl rfl (y_qq rfl Pr B11) rfl ?_
  refine wm_gy 14 rfl (by kernel_rfl) 53 rfl rfl (y_qq rfl Pp B7) rfl ?_
  refine wm_gy 15 rfl (by kernel_rfl) 53 rfl rfl (y_qq rfl Pq B9) rfl ?_
  refine wm_gy 16 rfl (by kernel_rfl) 53 rfl rfl (y_qq rfl Pr B11) rfl ?_
  refine wm_one 11 (by kernel_rfl) ?_; refine om_gcall rfl 53 rfl rfl Try.func71 rfl rfl rfl (Padd_any Pp Pq op oq _) rfl ?_
  rintro e wa4 ⟨ca4, rfl, PQ2, ex⟩
  refine ⟨_, rfl, .inr ex, ?_⟩
  replace E := E.ext ex
  replace B7 := B7.ext ex
  replace B9 := B9.ext ex
  replace B11 := B11.ext ex
  skip
  refine wm_one 13 (by kernel_rfl) ?_; refine om_gcall rfl 53 rfl rfl Try.func71 rfl rfl rfl (Padd_any PQ2.pp Pr (Ed.on_add op oq) or _) rfl ?_
  rintro e wa5 ⟨ca5, rfl, PQR, ex⟩
  refine ⟨_, rfl, .inr ex, ?_⟩
  replace E := E.ext ex
  replace B7 := B7.ext ex
  replace B9 := B9.ext ex
  replace B11 := B11.ext ex
  skip
  refine wm_one 17 (by kernel_rfl) ?_; refine om_gcall rfl 53 rfl rfl Try.func71 rfl rfl rfl (Padd_any Pq Pr oq or _) rfl ?_
  rintro e wa6 ⟨ca6, rfl, QR, ex⟩
  refine ⟨_, rfl, .inr ex, ?_⟩
  replace E := E.ext ex
  replace B7 := B7.ext ex
  replace B9 := B9.ext ex
  replace B11 := B11.ext ex
  skip
  refine wm_one 18 (by kernel_rfl) ?_; refine om_gcall rfl 53 rfl rfl Try.func71 rfl rfl rfl (Padd_any Pp QR.pp op (Ed.on_add oq or) _) rfl ?_
  rintro e wa7 ⟨ca7, rfl, PQR2, ex⟩
  refine ⟨_, rfl, .inr ex, ?_⟩
  replace E := E.ext ex
  replace B7 := B7.ext ex
  replace B9 := B9.ext ex
  replace B11 := B11.ext ex
  skip
  refine wm_one 19 (by kernel_rfl) ?_; refine om_gcall rfl 53 rfl rfl Try.func65 rfl rfl rfl (Psame_any PQR.pp PQR2.pp _) rfl ?_
  rintro e wa8 ⟨rfl, ex⟩
  refine ⟨_, rfl, .inr ex, ?_⟩
  replace E := E.ext ex
  replace B7 := B7.ext ex
  replace B9 := B9.ext ex
  replace B11 := B11.ext ex
  rw [decide_eq_true (Ed.add_assoc op oq or)]
  refine wm_gy 20 rfl (by kernel_rfl) 53 rfl rfl (y_not rfl) rfl ?_
  refine wm_y 21 rfl (by kernel_rfl) (y_pickf rfl rfl) rfl ?_
  refine wm_y 22 rfl (by kernel_rfl) (y_move rfl) rfl ?_
  refine wm_gy 23 rfl (by kernel_rfl) 67 rfl rfl (y_qq rfl Pp B7) rfl ?_
  refine wm_gy 24 rfl (by kernel_rfl) 67 rfl rfl (y_qq rfl Pp B7) rfl ?_
  refine wm_one 25 (by kernel_rfl) ?_; refine om_gcall rfl 67 rfl rfl Try.func76 rfl rfl rfl (Pneg_any Pp _) rfl ?_
  rintro e wb1 ⟨cb1, rfl, Pn, ex⟩
  refine ⟨_, rfl, .inr ex, ?_⟩
  replace E := E.ext ex
  replace B7 := B7.ext ex
  replace B9 := B9.ext ex
  replace B11 := B11.ext ex
  skip
  refine wm_one 26 (by kernel_rfl) ?_; refine om_gcall rfl 67 rfl rfl Try.func71 rfl rfl rfl (Padd_any Pp Pn.pp op (Ed.on_neg op) _) rfl ?_
  rintro e wb2 ⟨cb2, rfl, PN, ex⟩
  refine ⟨_, rfl, .inr ex, ?_⟩
  replace E := E.ext ex
  replace B7 := B7.ext ex
  replace B9 := B9.ext ex
  replace B11 := B11.ext ex
  skip
  refine wm_one 27 (by kernel_rfl) ?_; refine om_gcall rfl 67 rfl rfl Try.func66 rfl rfl rfl (pnothing_any _) rfl ?_
  rintro e wb3 ⟨cb3, rfl, PO, ex⟩
  refine ⟨_, rfl, .inr ex, ?_⟩
  replace E := E.ext ex
  replace B7 := B7.ext ex
  replace B9 := B9.ext ex
  replace B11 := B11.ext ex
  skip
  refine wm_one 28 (by kernel_rfl) ?_; refine om_gcall rfl 67 rfl rfl Try.func65 rfl rfl rfl (Psame_any PN.pp PO.pp _) rfl ?_
  rintro e wb4 ⟨rfl, ex⟩
  refine ⟨_, rfl, .inr ex, ?_⟩
  replace E := E.ext ex
  replace B7 := B7.ext ex
  replace B9 := B9.ext ex
  replace B11 := B11.ext ex
  rw [decide_eq_true (Ed.add_neg op)]
  refine wm_gy 29 rfl (by kernel_rfl) 67 rfl rfl (y_not rfl) rfl ?_
  refine wm_y 30 rfl (by kernel_rfl) (y_pickf rfl rfl) rfl ?_
  refine wm_y 31 rfl (by kernel_rfl) (y_move rfl) rfl ?_
  refine wm_gy 32 rfl (by kernel_rfl) 76 rfl rfl (y_qq rfl Pp B7) rfl ?_
  refine wm_gy 33 rfl (by kernel_rfl) 76 rfl rfl (y_build rfl (cells := pc zf zf zf zf false) (by kernel_rfl)) rfl ?_
  refine wm_gy 35 rfl (by kernel_rfl) 76 rfl rfl (y_qq rfl Pp B7) rfl ?_
  refine wm_one 34 (by kernel_rfl) ?_; refine om_gcall rfl 76 rfl rfl Try.func71 rfl rfl rfl (Padd_any Pp PP.zero op Ed.on_O _) rfl ?_
  rintro e wb5 ⟨cb5, rfl, PZ, ex⟩
  refine ⟨_, rfl, .inr ex, ?_⟩
  replace E := E.ext ex
  replace B7 := B7.ext ex
  replace B9 := B9.ext ex
  replace B11 := B11.ext ex
  skip
  refine wm_one 36 (by kernel_rfl) ?_; refine om_gcall rfl 76 rfl rfl Try.func65 rfl rfl rfl (Psame_any PZ.pp Pp _) rfl ?_
  rintro e wb6 ⟨rfl, ex⟩
  refine ⟨_, rfl, .inr ex, ?_⟩
  replace E := E.ext ex
  replace B7 := B7.ext ex
  replace B9 := B9.ext ex
  replace B11 := B11.ext ex
  rw [decide_eq_true (Ed.add_O P)]
  refine wm_gy 37 rfl (by kernel_rfl) 76 rfl rfl (y_not rfl) rfl ?_
  refine wm_y 38 rfl (by kernel_rfl) (y_pickf rfl rfl) rfl ?_
  refine wm_done (by kernel_rfl) ?_
  refine wq_nop ?_
  refine wq_then_norm (hK14 ?_)
  refine wc_false rfl rfl ?_
  refine wc_skip ?_
  refine wq_then_norm (hK13 ?_)
  refine wc_seq ?_; intro K15 hK15
  refine wc_region ?_
  refine wl_y (y_qq rfl Pp B7) rfl ?_
  refine wl_y (y_qq rfl Pq B9) rfl ?_
  refine wl_call Try.func71 rfl rfl rfl (Padd_any Pp Pq op oq _) rfl ?_
  rintro e wc1 ⟨cc1, rfl, PQ3, ex⟩
  refine ⟨_, rfl, ?_⟩
  replace E := E.ext ex
  replace B7 := B7.ext ex
  replace B9 := B9.ext ex
  replace B11 := B11.ext ex
  skip
  refine wl_call Try.func69 rfl rfl rfl (Pbytes_any PQ3.pp _) rfl ?_
  rintro e wc2 ⟨gc2, rfl, hgc2, Bc2, ex⟩
  refine ⟨_, rfl, ?_⟩
  replace E := E.ext ex
  replace B7 := B7.ext ex
  replace B9 := B9.ext ex
  replace B11 := B11.ext ex
  skip
  refine wl_call Try.func64 rfl rfl rfl (Pof_any _ 32 32 (Ed.enc (Ed.add P Q)) _ (bs_blk' Bc2 (Ed.enc_length _))) rfl ?_
  rintro e wc3 ⟨c13, rfl, P13, ex⟩
  refine ⟨_, rfl, ?_⟩
  replace E := E.ext ex
  replace B7 := B7.ext ex
  replace B9 := B9.ext ex
  replace B11 := B11.ext ex
  rw [Ed.dec_enc (Ed.on_add op oq)] at P13; rw [Ed.dec_enc (Ed.on_add op oq)]
  refine wl_y (y_move rfl) rfl ?_
  refine wl_y (y_extract rfl rfl) rfl ?_
  refine wl_y (y_extract rfl rfl) rfl ?_
  have hz14 := E.size; have hl714 := B7.lt; have hl914 := B9.lt; have hl1114 := B11.lt
  refine wl_ef (ef_alloc (Z := pc zf zf zf zf false) (by kernel_rfl)) rfl ?_
  rintro _ wc4 ⟨g13, rfl, B13, hg13, ex⟩
  replace E := E.ext ex
  replace B7 := B7.ext ex
  replace B9 := B9.ext ex
  replace B11 := B11.ext ex
  skip
  refine wl_ef (ef_storeW rfl rfl (by rw [P13.size]; kernel_rfl) B13 (by rw [pc_size, P13.size]) P13.one) rfl ?_
  rintro _ wc5 ⟨rfl, D13, cg⟩
  replace E := E.chg cg (by omega); replace B7 := B7.chg cg (by omega); replace B9 := B9.chg cg (by omega); replace B11 := B11.chg cg (by omega); replace B13 := D13
  refine wl_y (y_assign rfl) rfl ?_
  refine wl_nil ?_
  refine wq_then_norm (hK15 ?_)
  refine wc_seq ?_; intro K16 hK16
  refine wc_draw (by kernel_rfl) 34 rfl ?_; intro wd15 ex hd15
  replace E := E.ext ex
  replace B7 := B7.ext ex
  replace B9 := B9.ext ex
  replace B11 := B11.ext ex
  replace B13 := B13.ext ex
  refine wm_y 0 rfl (by kernel_rfl) (y_move rfl) rfl ?_
  refine wm_y 1 rfl (by kernel_rfl) (y_move rfl) rfl ?_
  refine wm_gy 2 rfl (by kernel_rfl) 93 rfl rfl (y_qq rfl P13 B13) rfl ?_
  refine wm_gy 3 rfl (by kernel_rfl) 93 rfl rfl (y_qq rfl Pp B7) rfl ?_
  refine wm_gy 4 rfl (by kernel_rfl) 93 rfl rfl (y_qq rfl Pq B9) rfl ?_
  refine wm_one 5 (by kernel_rfl) ?_; refine om_gcall rfl 93 rfl rfl Try.func71 rfl rfl rfl (Padd_any Pp Pq op oq _) rfl ?_
  rintro e wd1 ⟨cd1, rfl, PQ4, ex⟩
  refine ⟨_, rfl, .inr ex, ?_⟩
  replace E := E.ext ex
  replace B7 := B7.ext ex
  replace B9 := B9.ext ex
  replace B11 := B11.ext ex
  replace B13 := B13.ext ex
  skip
  refine wm_one 6 (by kernel_rfl) ?_; refine om_gcall rfl 93 rfl rfl Try.func65 rfl rfl rfl (Psame_any P13 PQ4.pp _) rfl ?_
  rintro e wd2 ⟨rfl, ex⟩
  refine ⟨_, rfl, .inr ex, ?_⟩
  replace E := E.ext ex
  replace B7 := B7.ext ex
  replace B9 := B9.ext ex
  replace B11 := B11.ext ex
  replace B13 := B13.ext ex
  rw [decide_eq_true (show (some (Ed.add P Q)).getD Ed.O = Ed.add P Q from rfl)]
  refine wm_y 7 rfl (by kernel_rfl) (y_pickt rfl rfl) rfl ?_
  refine wm_y 8 rfl (by kernel_rfl) (y_move rfl) rfl ?_
  refine wm_gy 9 rfl (by kernel_rfl) 100 rfl rfl (y_qq rfl Pp B7) rfl ?_
  refine wm_gy 12 rfl (by kernel_rfl) 100 rfl rfl (y_qq rfl Pp B7) rfl ?_
  refine wm_one 10 (by kernel_rfl) ?_; refine om_gcall rfl 100 rfl rfl Try.func76 rfl rfl rfl (Pneg_any Pp _) rfl ?_
  rintro e wd3 ⟨cd3, rfl, Pn2, ex⟩
  refine ⟨_, rfl, .inr ex, ?_⟩
  replace E := E.ext ex
  replace B7 := B7.ext ex
  replace B9 := B9.ext ex
  replace B11 := B11.ext ex
  replace B13 := B13.ext ex
  skip
  refine wm_one 11 (by kernel_rfl) ?_; refine om_gcall rfl 100 rfl rfl Try.func76 rfl rfl rfl (Pneg_any Pn2.pp _) rfl ?_
  rintro e wd4 ⟨cd4, rfl, Pn3, ex⟩
  refine ⟨_, rfl, .inr ex, ?_⟩
  replace E := E.ext ex
  replace B7 := B7.ext ex
  replace B9 := B9.ext ex
  replace B11 := B11.ext ex
  replace B13 := B13.ext ex
  skip
  refine wm_one 13 (by kernel_rfl) ?_; refine om_gcall rfl 100 rfl rfl Try.func65 rfl rfl rfl (Psame_any Pn3.pp Pp _) rfl ?_
  rintro e wd5 ⟨rfl, ex⟩
  refine ⟨_, rfl, .inr ex, ?_⟩
  replace E := E.ext ex
  replace B7 := B7.ext ex
  replace B9 := B9.ext ex
  replace B11 := B11.ext ex
  replace B13 := B13.ext ex
  rw [decide_eq_true (Ed.neg_neg P)]
  refine wm_y 14 rfl (by kernel_rfl) (y_pickt rfl rfl) rfl ?_
  refine wm_y 15 rfl (by kernel_rfl) (y_move rfl) rfl ?_
  refine wm_gy 16 rfl (by kernel_rfl) 107 rfl rfl (y_qq rfl Pp B7) rfl ?_
  refine wm_one 17 (by kernel_rfl) ?_; refine om_gcall rfl 107 rfl rfl Try.func70 rfl rfl rfl (Pright_any Pp op _) rfl ?_
  rintro e wd6 ⟨rfl, ex⟩
  refine ⟨_, rfl, .inr ex, ?_⟩
  replace E := E.ext ex
  replace B7 := B7.ext ex
  replace B9 := B9.ext ex
  replace B11 := B11.ext ex
  replace B13 := B13.ext ex
  skip
  refine wm_y 18 rfl (by kernel_rfl) (y_pickt rfl rfl) rfl ?_
  refine wm_y 19 rfl (by kernel_rfl) (y_move rfl) rfl ?_
  refine wm_gy 20 rfl (by kernel_rfl) 111 rfl rfl (y_qq rfl Pq B9) rfl ?_
  refine wm_one 21 (by kernel_rfl) ?_; refine om_gcall rfl 111 rfl rfl Try.func70 rfl rfl rfl (Pright_any Pq oq _) rfl ?_
  rintro e wd7 ⟨rfl, ex⟩
  refine ⟨_, rfl, .inr ex, ?_⟩
  replace E := E.ext ex
  replace B7 := B7.ext ex
  replace B9 := B9.ext ex
  replace B11 := B11.ext ex
  replace B13 := B13.ext ex
  skip
  refine wm_y 22 rfl (by kernel_rfl) (y_pickt rfl rfl) rfl ?_
  refine wm_y 23 rfl (by kernel_rfl) (y_move rfl) rfl ?_
  refine wm_gy 24 rfl (by kernel_rfl) 115 rfl rfl (y_qq rfl Pp B7) rfl ?_
  refine wm_gy 25 rfl (by kernel_rfl) 115 rfl rfl (y_qq rfl Pr B11) rfl ?_
  refine wm_one 26 (by kernel_rfl) ?_; refine om_gcall rfl 115 rfl rfl Try.func71 rfl rfl rfl (Padd_any Pp Pr op or _) rfl ?_
  rintro e wd8 ⟨cd8, rfl, PR, ex⟩
  refine ⟨_, rfl, .inr ex, ?_⟩
  replace E := E.ext ex
  replace B7 := B7.ext ex
  replace B9 := B9.ext ex
  replace B11 := B11.ext ex
  replace B13 := B13.ext ex
  skip
  refine wm_one 27 (by kernel_rfl) ?_; refine om_gcall rfl 115 rfl rfl Try.func70 rfl rfl rfl (Pright_any PR.pp (Ed.on_add op or) _) rfl ?_
  rintro e wd9 ⟨rfl, ex⟩
  refine ⟨_, rfl, .inr ex, ?_⟩
  replace E := E.ext ex
  replace B7 := B7.ext ex
  replace B9 := B9.ext ex
  replace B11 := B11.ext ex
  replace B13 := B13.ext ex
  skip
  refine wm_y 28 rfl (by kernel_rfl) (y_pickt rfl rfl) rfl ?_
  refine wm_y 29 rfl (by kernel_rfl) (y_move rfl) rfl ?_
  refine wm_gy 30 rfl (by kernel_rfl) 121 rfl rfl (y_build rfl (cells := pc zf zf zf zf false) (by kernel_rfl)) rfl ?_
  refine wm_one 31 (by kernel_rfl) ?_; refine om_gcall rfl 121 rfl rfl Try.func70 rfl rfl rfl (Pright_any PP.zero Ed.on_O _) rfl ?_
  rintro e wd10 ⟨rfl, ex⟩
  refine ⟨_, rfl, .inr ex, ?_⟩
  replace E := E.ext ex
  replace B7 := B7.ext ex
  replace B9 := B9.ext ex
  replace B11 := B11.ext ex
  replace B13 := B13.ext ex
  skip
  refine wm_y 32 rfl (by kernel_rfl) (y_pickt rfl rfl) rfl ?_
  refine wm_y 33 rfl (by kernel_rfl) (y_assign rfl) rfl ?_
  refine wm_done (by kernel_rfl) ?_
  refine wq_nop ?_
  refine wq_then_norm (hK16 ?_)
  refine wc_ret ?_
  refine hret rfl ?_
  exact ⟨rfl, E⟩
end Go.Proofs.Ytbcbihdfpkeacaa
