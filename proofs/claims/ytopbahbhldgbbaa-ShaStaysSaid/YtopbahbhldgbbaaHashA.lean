/- sha's running digest: Sum of a state with bytes left over. -/
import Derived.Test.YtopbahbhldgbbaaChunkA
import Derived.Test.YtopbahbhldgbbaaSha5
import Derived.Test.YtopbahbhldgbbaaLib
namespace Go.Proofs.Ytopbahbhldgbbaa
open Go.RowKit
attribute [local irreducible] Y Ef WL WC WK WQ WM OpM WN WF OpN
/-- The digest's cells. -/
def hashV (s : Sha.S8) (A : Option Addr) (m c N : Nat) : Array Value := nums .u32 s.list ++ #[.slice A m c, .int .i64 (N : Int)]
/-- The state when some pieces have come. -/
def folds (s : Sha.S8) (l : List UInt8) (js : List Nat) : Sha.S8 := js.foldl (fun s j => Sha.step s ((l.drop (64 * j)).take 64)) s
theorem folds_range (s : Sha.S8) (l : List UInt8) (k : Nat) : folds s l (List.range k) = Sha.blocks s l k := by
  induction k with
  | zero => rfl
  | succ k ih => unfold folds at *; rw [List.range_succ, List.foldl_append, ih]; rfl
theorem folds_fin (s : Sha.S8) (l : List UInt8) (k : Nat) : folds s l ((List.finRange k).map (·.val)) = Sha.blocks s l k := by
  rw [← folds_range]; congr 1
  exact List.ext_getElem (by simp) (fun i h1 h2 => by simp)
theorem folds_snoc (s : Sha.S8) (l : List UInt8) (js : List Nat) (j : Nat) : folds s l (js ++ [j]) = Sha.step (folds s l js) ((l.drop (64 * j)).take 64) := by
  unfold folds; rw [List.foldl_append]; rfl
theorem step_ok (s : Sha.S8) (b : List UInt8) : (Sha.step s b).ok := by
  have : (0 : Nat) < 4294967296 := by omega
  exact ⟨Nat.mod_lt _ this, Nat.mod_lt _ this, Nat.mod_lt _ this, Nat.mod_lt _ this, Nat.mod_lt _ this, Nat.mod_lt _ this, Nat.mod_lt _ this, Nat.mod_lt _ this⟩
theorem folds_ok (l : List UInt8) : ∀ (js : List Nat) {s : Sha.S8}, s.ok → (folds s l js).ok
  | [], _, h => h
  | j :: js, s, _ => folds_ok l js (step_ok s ((l.drop (64 * j)).take 64))
theorem nums_len (s : Sha.S8) : (nums .u32 s.list).size = 8 := rfl
theorem hash_rest (s : Sha.S8) (A : Option Addr) (m c N : Nat) : (hashV s A m c N)[8]? = some (.slice A m c) := rfl
theorem hash_len (s : Sha.S8) (A : Option Addr) (m c N : Nat) : (hashV s A m c N)[9]? = some (.int .i64 (N : Int)) := rfl
/-- The block of the rounds' deferred calls. -/
def Dfr (w : World) (D : Nat) : Prop := w.heap[D]? = some (.deferred (some []))
theorem Dfr.lt {w : World} {D : Nat} (h : Dfr w D) : D < w.heap.size := (Array.getElem?_eq_some_iff.1 h).1
theorem Dfr.ext {w w' : World} {D : Nat} (h : Dfr w D) (k : Ext w w') : Dfr w' D := (k.block D h.lt).trans h
/-- What a call of step leaves the loop. -/
theorem keeps_grown {B g : Nat} {W W' : World} (hg : W.grownBy W' (some g)) (h : g < B) : KeepsFrom B W W' := KeepsFrom.of_grownBy hg (fun j e => by injection e with e; omega)
theorem kpb_grown {b1 b2 g : Nat} {W W' : World} (hg : W.grownBy W' (some g)) (h1 : b1 < W.heap.size) (h2 : b2 < W.heap.size) (n1 : b1 ≠ g) (n2 : b2 ≠ g) : KpB b1 b2 W W' :=
  ⟨hg.size, hg.block b1 h1 (fun e => n1 (by injection e)), hg.block b2 h2 (fun e => n2 (by injection e))⟩
theorem kpb_put {b1 b2 : Nat} (W : World) (l : Nat) (o o' : Obj) (h1 : b1 < l) (h2 : b2 < l) (h : W.heap[l]? = some o) : KpB b1 b2 W (W.putObj l o') :=
  ⟨by simp [World.putObj], World.putObj_heap_other (by omega), World.putObj_heap_other (by omega)⟩

theorem enters {P : Program} {f : FuncId} {fn : Func} {c : Code} (hf : P.funcs[f]? = some fn) (hb : fn.body = some c) (hn : (fn.name == "runtime.NumGoroutine") = false) (args : Array Value) (w : World) : (callFunc f args).run P w = .ok (.enter f args) w := by
  have hn' : ¬ fn.name = "runtime.NumGoroutine" := by simpa using hn
  simp [callFunc, hf, hb, hn']
theorem own_blk {β : Type} {B g : Nat} {t : TypeId} {f : β → Array Value} : OwnFrom B (fun s W => Blk W g t (f s)) := fun s W W' row hs hg hr =>
  (grownBy_keeps_cells hg (fun r e => (hr r e).2) hs rfl).trans hs
theorem own_bs {β : Type} {B : Nat} {A : Option Addr} {n : Nat} {xs : List UInt8} : OwnFrom B (fun (_ : β) W => Bs W A n xs) := fun s W W' row hs hg hr => by
  refine ⟨hs.1, ?_⟩
  rcases hs.2 with h | ⟨b, off, hA, hc⟩
  · exact .inl h
  · exact .inr ⟨b, off, hA, fun j u hj => cell_kept (hc j u hj) hg (fun r e => (hr r e).2)⟩
theorem own_size {β : Type} {B k : Nat} : OwnFrom B (fun (_ : β) W => k ≤ W.heap.size) := fun _ _ _ _ hs hg _ => Nat.le_trans hs hg.size
theorem wrap_u8 (k : Nat) : IntKind.u8.wrap (k : Int) = ((UInt8.ofNat k).toNat : Int) := by
  rw [UInt8.toNat_ofNat']
  show ((k : Int) % 256) = ((k % 256 : Nat) : Int)
  omega
theorem shr_u32 (x m : Nat) (hm : m < 32) : (x : Int) / 2 ^ (min ((m : Int)).toNat IntKind.u32.bits) = ((x / 2 ^ m : Nat) : Int) := by
  have e : min ((m : Int)).toNat IntKind.u32.bits = m := by show min m 32 = m; omega
  rw [e, Int.natCast_ediv, Int.natCast_pow]; rfl
theorem take_be32 (l : List Nat) {i : Nat} (h : i < l.length) : (l.take i).flatMap Sha.be32 ++ Sha.be32 (l.getD i 0) = (l.take (i + 1)).flatMap Sha.be32 := by
  rw [List.take_succ_eq_append_getElem h, List.flatMap_append, List.getD_eq_getElem?_getD, List.getElem?_eq_getElem h]; simp
theorem hash_state (s : Sha.S8) (A : Option Addr) (m c N : Nat) (j : Nat) (v : Value) (h : (nums .u32 s.list)[j]? = some v) : (hashV s A m c N)[0 + j]? = some v := by
  rw [Nat.zero_add]; unfold hashV
  rw [Array.getElem?_append_left (Array.getElem?_eq_some_iff.1 h).1]; exact h
set_option maxHeartbeats 1000000 in
theorem hsum_any (gh : Nat) (s : Sha.S8) (A : Option Addr) (m c N : Nat) (rest : List UInt8) (w : World) (hs : s.ok) (H : Blk w gh 70 (hashV s A m c N)) (HA : Bs w A m rest) (hm : m ≤ 1000000) (hN : N ≤ 1000000) (hmod : N % 64 = m % 64) :
    Calls Try.prog 15 #[.pointer (some ⟨gh, 0, none⟩)] w fun e w' => ∃ A' c', e = .returned (.slice A' 32 c') ∧ Row w' w.heap.size 5 A' 32 c' (((Sha.blocks s (rest ++ Sha.pad N) ((m + (9 + Sha.zeros N)) / 64)).bytes).map bv) ∧ Ext w w' := by
  have E := Ext.refl w
  have hz : Sha.zeros N < 64 := Nat.mod_lt _ (by omega)
  obtain ⟨M, hM⟩ : ∃ M, m + (9 + Sha.zeros N) = 64 * M := ⟨(m + (9 + Sha.zeros N)) / 64, by have := Sha.padded_mod N; rw [Sha.pad_length] at this; omega⟩
  have HA0 := HA; have H0 := H
  refine vc_enterM1 (3) 50 Try.func15 rfl rfl rfl rfl ?_
  intro Q hret0 hretD
  refine wc_seq ?_; intro K1 hK1
  refine wc_region ?_
  refine wl_y (y_assign rfl) rfl ?_
  refine wl_nil ?_
  refine wq_then_norm (hK1 ?_)
  refine wc_seq ?_; intro K2 hK2
  refine wc_seq ?_; intro K3 hK3
  refine wc_region ?_
  refine wl_y (y_move rfl) rfl ?_
  refine wl_y (Y.as (y_eqlp rfl rfl Try.underlying25) (congrArg Value.bool (show _ = false from rfl))) rfl ?_
  refine wl_nil ?_
  refine wq_then_norm (hK3 ?_)
  refine wc_false rfl rfl ?_
  refine wc_skip ?_
  refine wq_then_norm (hK2 ?_)
  refine wc_seq ?_; intro K4 hK4
  refine wc_region ?_
  refine wl_y (y_move rfl) rfl ?_
  refine wl_y (y_nilp rfl) rfl ?_
  refine wl_y (y_fieldAddr (o := 0) (s := 8) (off := 0) (o' := 0) rfl Try.underlying70 rfl (by kernel_rfl) rfl rfl) rfl ?_
  refine wl_y (y_loadp rfl Try.underlying67 rfl (by kernel_rfl) (fun j v hv => by rw [Addr.add_plain]; exact H.get (hash_state s A m c N j v hv))) rfl ?_
  refine wl_ef (ef_alloc (Z := nums .u32 [0, 0, 0, 0, 0, 0, 0, 0]) (by kernel_rfl)) rfl ?_
  rintro _ w1 ⟨g3, rfl, B3, hg3, ex⟩
  replace E := E.ext ex
  replace H := H.ext ex
  replace HA := HA.ext ex
  have hw3 := hg3
  refine wl_ef (ef_storeW rfl rfl (by kernel_rfl) B3 rfl (nums_one _ _)) rfl ?_
  rintro _ w2 ⟨rfl, D3, cg⟩
  replace E := E.chg cg hw3; replace H := H0.ext E; replace HA := HA0.ext E; have K := Ext.refl w2; have E4 := E; have D4 := D3
  refine wl_nil ?_
  refine wq_then_norm (hK4 ?_)
  refine wc_seq ?_; intro K5 hK5
  refine wc_seq ?_; intro K6 hK6
  refine wc_draw (by kernel_rfl) 12 rfl ?_; intro wd4 ex hd4
  replace E := E.ext ex
  replace H := H.ext ex
  replace HA := HA.ext ex
  replace D3 := D3.ext ex
  replace K := K.ext ex
  refine wm_z 0 rfl (by kernel_rfl) (fun _ => y_move rfl) rfl ?_
  refine wm_z 1 rfl (by kernel_rfl) (fun _ => y_nilp rfl) rfl ?_
  refine wm_z 2 rfl (by kernel_rfl) (fun _ => y_fieldAddr (o := 8) (s := 1) (off := 0) (o' := 8) rfl Try.underlying70 rfl (by kernel_rfl) rfl rfl) rfl ?_
  refine wm_y 3 rfl (by kernel_rfl) (y_load1 rfl Try.underlying24 rfl (H.get (hash_rest s A m c N))) rfl ?_
  refine wm_z 5 rfl (by kernel_rfl) (fun _ => y_move rfl) rfl ?_
  refine wm_z 6 rfl (by kernel_rfl) (fun _ => y_nilp rfl) rfl ?_
  refine wm_z 7 rfl (by kernel_rfl) (fun _ => y_fieldAddr (o := 9) (s := 1) (off := 0) (o' := 9) rfl Try.underlying70 rfl (by kernel_rfl) rfl rfl) rfl ?_
  refine wm_y 8 rfl (by kernel_rfl) (y_load1 rfl Try.underlying3 rfl (H.get (hash_len s A m c N))) rfl ?_
  have hk4 := K.size
  refine wm_one 4 (by kernel_rfl) ?_; refine om_call rfl Try.func44 rfl rfl rfl (clone_any A m c rest _ HA (by omega)) rfl ?_
  rintro e w3 ⟨A3, c3, rfl, O3, ex⟩
  refine ⟨_, rfl, .inr ex, ?_⟩
  replace E := E.ext ex
  replace H := H.ext ex
  replace HA := HA.ext ex
  replace D3 := D3.ext ex
  replace K := K.ext ex
  have R3 := Row.lower (show Row w3 _ 5 A3 m c3 (rest.map bv) from O3) hk4
  refine wm_one 9 (by kernel_rfl) ?_; refine om_call rfl Try.func45 rfl rfl rfl (tail_any N _ (by omega)) rfl ?_
  rintro e w4 ⟨A4, c4, rfl, O4, ex⟩
  refine ⟨_, rfl, .inr ex, ?_⟩
  replace E := E.ext ex
  replace H := H.ext ex
  replace HA := HA.ext ex
  replace D3 := D3.ext ex
  replace K := K.ext ex
  replace R3 := R3.ext ex
  have H4 := O4.bs
  refine wm_one 10 (by kernel_rfl) ?_; refine om_ef rfl (ef_app rfl rfl eltB R3 H4.2 (by rw [List.length_map, H4.1]) (by intro u hu; exact bv_one u hu) (by omega) (by omega) K.size) rfl ?_
  rintro _ w5 ⟨A5, c5, rfl, R5, be, gr, hl⟩
  refine ⟨.inl rfl, ?_⟩
  replace K := K.trans be; replace D3 := D4.ext K; replace E := E4.ext K; have HT := R5.cat.bs; obtain ⟨g5, v5, rfl, _, _, hb5, hl5, _⟩ := R5.get (i := 0) (by omega); have hcap := R5.cap; have hd5 := D4.lt; rw [hM] at HT hcap; rw [hM]; obtain ⟨T, hT⟩ : ∃ T, T = rest ++ Sha.pad N := ⟨_, rfl⟩; rw [← hT] at HT
  have hkk5 := K.size
  refine wm_one 11 (by kernel_rfl) ?_; refine om_call rfl Try.func46 rfl rfl rfl (chunk_any g5 0 c5 64 M _ (by omega)) rfl ?_
  rintro e w6 ⟨b1, b2, rfl, hb1, hb2, C1, C2, ex⟩
  refine ⟨_, rfl, .inr ex, ?_⟩
  replace E := E.ext ex
  replace D3 := D3.ext ex
  replace K := K.ext ex
  replace HT := HT.ext ex
  have hq1 := C1.lt; have hq2 := C2.lt; have hE6 := E.size; have hkk6 := K.size
  refine wm_done (by kernel_rfl) ?_
  refine wq_nop ?_
  refine wq_then_norm (hK6 ?_)
  refine wc_block ?_
  refine wc_range (n := 3) (S := fun xs => xs = List.finRange M) (by omega) rfl (enters Try.func72 rfl rfl) (chunk_stops 2 g5 0 c5 64 M b1 b2 _ (by omega) hcap (by omega) C1 C2) KpB.trans (fun W l o o' hl ho _ _ => kpb_put W l o o' (by omega) (by omega) ho) (fun pre W => Blk W g3 67 (nums .u32 (folds s T (pre.map (·.val))).list) ∧ Bs W (some ⟨g5, 0, none⟩) (64 * M) T ∧ Below w.heap.size w W ∧ w6.heap.size ≤ W.heap.size) (OwnFrom.and own_blk (OwnFrom.and own_bs (OwnFrom.and (ownFrom_below (Nat.le_refl _) (by omega)) own_size))) ⟨D3, HT, E, Nat.le_refl _⟩ rfl rfl rfl ?_ ?_
  · intro Q2 pre v W2 ⟨I1, I2, I3, I4⟩ hl hout
    have hv := v.isLt
    refine wl_y (y_move rfl) rfl ?_
    refine wl_call Try.func43 rfl rfl rfl (step_any (some ⟨g5, 0 + 64 * v.val, none⟩) 64 ((T.drop (64 * v.val)).take 64) g3 _ _ ((I2.cutOff (64 * v.val)).take (by omega)) (folds_ok T _ hs) I1) rfl ?_
    rintro e w9 ⟨rfl, hk2, hgr⟩
    refine ⟨_, rfl, ?_⟩
    skip
    refine wl_nil ?_
    exact hout (keeps_grown hgr (by omega)) (kpb_grown hgr (by omega) (by omega) (by omega) (by omega)) ⟨by rw [List.map_append, List.map_singleton, folds_snoc]; exact hk2, I2.grown hgr (by intro b off e; injection e with e; injection e; omega), below_grown I3 hgr (by omega) I3.size, Nat.le_trans I4 hgr.size⟩
  · intro D xs2 W2 hD hS2 ⟨I1, I2, I3, I4⟩ hKD
    obtain rfl := hS2
    rw [folds_fin] at I1
    have F := Ext.refl W2
    obtain ⟨S, hS⟩ : ∃ S, S = Sha.blocks s T M := ⟨_, rfl⟩
    rw [← hS] at I1
    have hSl : S.list.length = 8 := rfl
    refine wq_blk_norm ?_
    refine wq_then_norm (hK5 ?_)
    refine wc_seq ?_; intro K7 hK7
    refine wc_region ?_
    refine wl_y (y_assign rfl) rfl ?_
    refine wl_nil ?_
    refine wq_then_norm (hK7 ?_)
    refine wc_seq ?_; intro K8 hK8
    refine wc_seq ?_; intro K9 hK9
    refine wc_region ?_
    refine wl_y (y_loadw rfl Try.underlying67 rfl (by kernel_rfl) I1) rfl ?_
    refine wl_y (y_move rfl) rfl ?_
    refine wl_nil ?_
    refine wq_then_norm (hK9 ?_)
    refine wc_block ?_
    refine wc_loop (fun n' L wr => ∃ (i c' : Nat) (A' : Option Addr), L = [(5, .slice A' (4 * i) c'), (30, .agg (nums .u32 S.list)), (31, .int .i64 (i : Int))] ∧ n' = 8 - i ∧ (i ≤ 8 ∧ Ext W2 wr ∧ Row wr W2.heap.size 5 A' (4 * i) c' (((S.list.take i).flatMap Sha.be32).map bv))) _ _ ⟨0, 0, none, rfl, rfl, by omega, F, Row.empty _ _ _⟩ ⟨rfl, rfl, (by first | rfl | exact congrArg some (int_val (by omega))), trivial⟩ ?_
    rintro KL1 n' L wr ⟨i, c', A', rfl, rfl, hi, F, R⟩ hL1
    refine wc_seq ?_; intro K10 hK10
    refine wc_region ?_
    refine wl_y (y_lss rfl rfl) rfl ?_
    refine wl_nil ?_
    refine wq_then_norm (hK10 ?_)
    refine wc_seq ?_; intro K11 hK11
    refine wc_dec rfl (fun hc2 => ?_) (fun hc2 => ?_)
    · skip
      refine wc_skip ?_
      refine wq_then_norm (hK11 ?_)
      refine wc_seq ?_; intro K12 hK12
      refine wc_block ?_
      refine wc_seq ?_; intro K13 hK13
      refine wc_region ?_
      obtain ⟨x, hx⟩ : ∃ x, x = S.list.getD i 0 := ⟨_, rfl⟩
      refine wl_y (y_ix1 rfl rfl Try.underlying67 Try.underlying66 rfl (by kernel_rfl) rfl (by omega) (show (nums .u32 S.list)[i]? = some (.int .u32 (x : Nat)) from by rw [hx]; exact nums_get _ _ _ (by omega))) rfl ?_
      refine wl_y (y_assign rfl) rfl ?_
      refine wl_nil ?_
      refine wq_then_norm (hK13 ?_)
      refine wc_region ?_
      refine wl_y (y_move rfl) rfl ?_
      refine wl_y (y_move rfl) rfl ?_
      refine wl_y (y_shr rfl rfl (by omega) (shr_u32 x 24 (by omega))) rfl ?_
      refine wl_y (y_conv rfl Try.underlying66 Try.underlying5 (wrap_u8 _)) rfl ?_
      refine wl_y (y_move rfl) rfl ?_
      refine wl_y (y_shr rfl rfl (by omega) (shr_u32 x 16 (by omega))) rfl ?_
      refine wl_y (y_conv rfl Try.underlying66 Try.underlying5 (wrap_u8 _)) rfl ?_
      refine wl_y (y_move rfl) rfl ?_
      refine wl_y (y_shr rfl rfl (by omega) (shr_u32 x 8 (by omega))) rfl ?_
      refine wl_y (y_conv rfl Try.underlying66 Try.underlying5 (wrap_u8 _)) rfl ?_
      refine wl_y (y_move rfl) rfl ?_
      refine wl_y (y_conv rfl Try.underlying66 Try.underlying5 (wrap_u8 _)) rfl ?_
      refine wl_ef (ef_lit (z := .int .u8 0) Try.underlying24 (by kernel_rfl) rfl rfl rfl rfl rfl) rfl ?_
      rintro _ v5 ⟨g6, rfl, B6, hg6, ex⟩
      replace F := F.ext ex
      replace R := R.ext ex
      skip
      refine wl_ef (ef_app rfl rfl eltB R (At.blk (vs := (Sha.be32 x).map bv) (B6.congr (by rfl))) rfl (by intro u hu; exact bv_one u hu) (by omega) (by omega) F.size) rfl ?_
      rintro _ v6 ⟨A7, c7, rfl, R7, be, gr, hl⟩
      have F7 := F.trans be; have R8 := R7.cat; rw [hx, take_be32 _ (by omega)] at R8
      refine wl_y (y_assign rfl) rfl ?_
      refine wl_nil ?_
      refine wq_blk_norm ?_
      refine wq_then_norm (hK12 ?_)
      refine wc_region ?_
      refine wl_y (y_add rfl rfl (i64_ok (by omega) (by omega))) rfl ?_
      refine wl_y (y_move rfl) rfl ?_
      refine wl_nil ?_
      refine wq_then_norm ?_
      refine hL1 _ _ ⟨i + 1, c7, A7, rfl, rfl, by omega, F7, R8⟩ (by omega) ⟨rfl, rfl, (by first | rfl | exact congrArg some (int_val (by omega))), trivial⟩
    · skip
      refine wc_exit ?_
      refine wq_then_exit ?_
      refine wq_then_exit ?_
      refine wq_blk_hit ?_
      refine wq_then_norm (hK8 ?_)
      refine wc_seq ?_; intro K14 hK14
      obtain rfl : i = 8 := by omega
      have HD := (show Dfr W2 D from hKD).ext F
      refine wc_region ?_
      refine wl_y (y_move rfl) rfl ?_
      refine wl_y (y_assign rfl) rfl ?_
      refine wl_nil ?_
      refine wq_then_norm (hK14 ?_)
      refine wc_ret ?_
      refine hretD rfl HD ?_
      have e8 : S.list.take 8 = S.list := List.take_of_length_le (by omega)
      have eb : Sha.blocks s (rest ++ Sha.pad N) ((m + (9 + Sha.zeros N)) / 64) = S := by rw [hM, Nat.mul_div_cancel_left _ (by omega), hS, hT]
      rw [eb]
      rw [e8] at R
      have hDw : w.heap.size ≤ D := by omega
      exact ⟨A', c', rfl, Row.lower (ownsRow_putObj R _ HD rfl) I3.size, (I3.trans (F.mono I3.size)).trans (belowK_b (w := w) (Nat.le_refl _) wr D _ _ hDw HD rfl rfl)⟩
end Go.Proofs.Ytopbahbhldgbbaa
