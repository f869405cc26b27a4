/- 'append(s, make([]T, m)...)': a row that the call owns and that holds something, and m zeros. The long digest: bytes with their tail, the digest, Of. The long digest: Sum and Of. -/
import Derived.Test.YtjllhimhiekchaaGreatOffA
import Derived.Lib.AppendZeros
import Derived.Test.YtjllhimhiekchaaGreatLongA
import Derived.Test.YtjllhimhiekchaaGreatChunkA
namespace Go.Proofs.YtjllhimhiekchaaGreat
section
open Go.RowKit
section
variable {P : Program} {w : World} {ty : TypeId}
theorem run_append_roomZ (t tn e : TypeId) (i : TypeInfo) (z : Value) (k kn : IntKind) (ht : P.underlying t = some (.slice e)) (htn : P.underlying tn = some (.int kn)) (hi : P.info? e = some i) (hz : i.zero = some z)
  (g sLen sCap m : Nat) (cur : Array Value) (hg : w.heap[g]? = some (.cells cur e (0, 0))) (hs : i.size = 1) (h0 : 0 < m) (h63 : (m : Int) ≤ 9223372036854775807) (h48 : m * i.bytes ≤ 281474976710656)
  (news : List Value) (hnews : (Builtin.zeroCells z.cells m).toList = news) (h1 : ∀ u ∈ news, u.oneCell' = true) (hroom : sLen + m ≤ sCap) (hfit : sLen + news.length ≤ cur.size) :
  (Builtin.append_ #[t, tn] ty #[.slice (some ⟨g, 0, none⟩) sLen sCap, .int k m]).run P w = .ok (.slice (some ⟨g, 0, none⟩) (sLen + m) sCap) (w.setRow g (cur.toList.take sLen ++ news ++ cur.toList.drop (sLen + news.length)).toArray) := by
 have hst := run_storeCells_at P g sLen e news 0 cur w hg (by simpa using hfit) h1
 simp only [Nat.add_zero] at hst
 have hw : IntKind.i64.wrap (m : Int) = m := by rw [IntKind.wrap_i64]; omega
 have hneg : ¬ ((m : Int) < 0) := by omega
 have hm0 : m ≠ 0 := by omega
 have h48i : ¬ (281474976710656 < (m : Int) * (i.bytes : Int)) := by rw [← Int.natCast_mul]; omega
 simp [Builtin.append_, run_underlying ht, run_underlying htn, sizeOf, typeInfo, zeroValue, hi, hz, asInt, asIntOf, hw, hneg, hm0, hs, h48i, hroom, Addr.add_lit, hnews, hst]
theorem run_append_growZ (t tn e : TypeId) (i : TypeInfo) (z : Value) (k kn : IntKind) (ht : P.underlying t = some (.slice e)) (htn : P.underlying tn = some (.int kn)) (hi : P.info? e = some i) (hz : i.zero = some z)
  (b : Addr) (sLen sCap m : Nat) (olds : List Value) (hlo : olds.length = sLen * i.size) (holds : ∀ j v, olds[j]? = some v → w.cell? (b.add j) = some v) (hs : i.size = 1) (h0 : 0 < m) (h48m : m * i.bytes ≤ 281474976710656)
  (news : List Value) (hnews : (Builtin.zeroCells z.cells m).toList = news)
  (hg : sCap < sLen + m) (h63 : ((sLen + m : Nat) : Int) ≤ 9223372036854775807) (hfit : Builtin.nextslicecap (sLen + m) sCap * i.bytes ≤ 281474976710656) :
  (Builtin.append_ #[t, tn] ty #[.slice (some b) sLen sCap, .int k m]).run P w = .ok (.slice (some ⟨w.heap.size, 0, none⟩) (sLen + m) (grownCap w (sLen + m) sCap e))
    (w.drew.alloc (.cells (olds.toArray ++ news.toArray ++ Builtin.zeroCells z.cells (grownCap w (sLen + m) sCap e - (sLen + m))) e)) := by
 have hn : ¬ (sLen + m ≤ sCap) := by omega
 have h63' : ¬ (9223372036854775807 < ((sLen : Int) + (m : Int))) := by omega
 have h48' : ¬ (281474976710656 < Builtin.nextslicecap (sLen + m) sCap * i.bytes) := by omega
 have hw : IntKind.i64.wrap (m : Int) = m := by rw [IntKind.wrap_i64]; omega
 have hneg : ¬ ((m : Int) < 0) := by omega
 have hm0 : m ≠ 0 := by omega
 have h48i : ¬ (281474976710656 < (m : Int) * (i.bytes : Int)) := by rw [← Int.natCast_mul]; omega
 have hfo := run_firstCells_some (P := P) w.drew i.size sLen b sLen sCap olds hlo (by simpa using holds)
 rw [hs] at hfo
 have hz' : Builtin.zeroCells z.cells m = news.toArray := by rw [← hnews]
 simp [Builtin.append_, run_underlying ht, run_underlying htn, sizeOf, typeInfo, zeroValue, hi, hz, asInt, asIntOf, hw, hneg, hm0, hs, h48i, hn, h63', h48', Question.forced, hfo, newRow, grownCap, hz']
 congr 2
 apply Array.ext'
 simp [List.append_assoc]
theorem run_append_ownZ {A : Option Addr} {n m c base bytes : Nat} {t tn e : TypeId} {k kn : IntKind} {xs : List Value} {u : Value} (hE : Elt P t e bytes) (htn : P.underlying tn = some (.int kn)) (hown : Row w base e A n c xs)
  (hu : (P.info? e).map (·.zero) = some (some u)) (h1 : u.oneCell' = true) (hn : 0 < n) (h0 : 0 < m) (hlen : (n + m) * bytes ≤ 140737488355328) (h63 : n + m ≤ 140737488355328) (hbase : base ≤ w.heap.size) :
  ∃ A' c' w', (Builtin.append_ #[t, tn] ty #[.slice A n c, .int k m]).run P w = .ok (.slice A' (n + m) c') w' ∧ Row w' base e A' (n + m) c' (xs ++ List.replicate m u) ∧ Below base w w' ∧ w.grownBy w' (Value.slice A (n + m) c).ownBlock ∧ ((Value.slice A' (n + m) c').ownBlock = (Value.slice A (n + m) c).ownBlock ∨ (Value.slice A' (n + m) c').ownBlock = some w.heap.size) := by
 obtain ⟨ht, i, z, hi, hz, hs, hb, hzs⟩ := hE
 have hzu : z = u := by rw [hi] at hu; simp only [Option.map_some, Option.some.injEq] at hu; rw [hz] at hu; injection hu
 subst hzu
 have hz1 : z.cells = #[z] := one_cells h1
 have hnews : (Builtin.zeroCells z.cells m).toList = List.replicate m z := by
  rw [hz1]
  simp only [Builtin.zeroCells, Array.size, List.length_singleton, Nat.mul_one, Array.toList_map, Array.toList_range]
  apply List.ext_getElem
  ·simp
  ·intro j h2 h3
   simp [Nat.mod_one]
 have hone : ∀ v ∈ List.replicate m z, v.oneCell' = true := fun v hv => by rw [List.eq_of_mem_replicate hv]; exact h1
 have hlx := hown.len
 rcases hown.2 with ⟨hv, hn0⟩ | ⟨g, cap, cur, hv, hbg, hg, hnc, hcm, hcs, htake⟩
 ·omega
 ·injection hv with h2 h3 h4
  subst h2; subst h4
  have hmb : m * bytes ≤ 140737488355328 := Nat.le_trans (Nat.mul_le_mul_right _ (by omega)) hlen
  rw [Nat.mul_one] at hcs htake
  by_cases hroom : n + m ≤ c
  ·have hr := run_append_roomZ (P := P) (w := w) (ty := ty) t tn e i z k kn ht htn hi hz g n c m cur hg hs h0 (by omega) (by rw [hb]; omega) _ hnews hone hroom (by rw [List.length_replicate]; omega)
   refine ⟨_, c, _, hr, ⟨by rw [List.length_append, List.length_replicate]; omega, .inr ⟨g, c, _, rfl, hbg, setRow_heap w g cur _ e _ hg, hroom, hcm, ?_, ?_⟩⟩, ?_, ?_, .inl rfl⟩
   ·simp only [List.size_toArray, List.length_append, List.length_take, List.length_drop, Array.length_toList, List.length_replicate]; omega
   ·rw [htake, Nat.mul_one, List.take_append_of_le_length (by rw [List.length_append, List.length_replicate]; omega), List.take_of_length_le (by rw [List.length_append, List.length_replicate]; omega)]
   ·exact ⟨rfl, rfl, rfl, by simp [World.setRow], fun j hj => setRow_other w g j _ (by omega)⟩
   ·exact ⟨rfl, rfl, rfl, by simp, fun j _ hj => setRow_other w g j _ (fun e => hj (by simp [Value.ownBlock, e]))⟩
  ·have holds : ∀ j v, xs[j]? = some v → w.cell? ((⟨g, 0, none⟩ : Addr).add j) = some v := World.ownsRow.cells hown rfl
   have hr := run_append_growZ (P := P) (w := w) (ty := ty) t tn e i z k kn ht htn hi hz ⟨g, 0, none⟩ n c m xs (by rw [hs]; omega) holds hs h0 (by rw [hb]; omega) _ hnews (by omega) (by omega) (growslice_fits (by omega) (by rw [hb]; omega))
   have hge := grownCap_ge w (n + m) c e
   have hcm2 : grownCap w (n + m) c e ≤ maxLen := grownCap_le_maxLen w (n + m) c e (by unfold maxLen; omega)
   refine ⟨_, _, _, hr, ⟨by rw [List.length_append, List.length_replicate]; omega, .inr ⟨w.heap.size, _, _, rfl, hbase, heap_alloc_new w.drew _, hge, hcm2, ?_, ?_⟩⟩, ?_, ?_, .inr rfl⟩
   ·simp only [Array.size_append, List.size_toArray, size_zeroCells, hzs, List.length_replicate, hlx]; omega
   ·simp only [Array.toList_append, List.append_assoc]
    rw [← List.append_assoc, List.take_append_of_le_length (by rw [List.length_append, List.length_replicate]; omega), List.take_of_length_le (by rw [List.length_append, List.length_replicate]; omega)]
   ·exact (Below.refl _ _).drew.alloc hbase _
   ·exact ⟨rfl, rfl, rfl, by simp, fun j hj _ => ((Below.refl w.heap.size w).drew.alloc (Nat.le_refl _) _).block j hj⟩
theorem ef_appz {L : List (Nat × Value)} {x y : Operand} {A : Option Addr} {n m c base bytes : Nat} {t tn e : TypeId} {k kn : IntKind} {xs : List Value} {u : Value} (hx : ev L x = some (.slice A n c)) (hy : ev L y = some (.int k (m : Int))) (hE : Elt P t e bytes) (htn : P.underlying tn = some (.int kn)) (hown : Row w base e A n c xs)
  (hu : (P.info? e).map (·.zero) = some (some u)) (h1 : u.oneCell' = true) (hn : 0 < n) (h0 : 0 < m) (hlen : (n + m) * bytes ≤ 140737488355328) (h63 : n + m ≤ 140737488355328) (hbase : base ≤ w.heap.size) :
  Ef P L w (.call { callee := .builtin .append, args := #[x, y], argTypes := #[t, tn] }) ty (Apd w base e A (n + m) c (xs ++ List.replicate m u)) := Ef.run fun ρ hρ => by
 obtain ⟨A', c', w', hrun, h2, h3, h4, h5⟩ := run_append_ownZ (P := P) (w := w) (ty := ty) (k := k) hE htn hown hu h1 hn h0 hlen h63 hbase
 exact ⟨_, w', ⟨A', c', rfl, h2, h3, h4, h5⟩, fun _ _ _ _ => by simp [execOp, resolve, invoke, builtin, hρ _ _ hx, hρ _ _ hy, hrun]⟩
end
end
section
open Go.RowKit
attribute [local irreducible] Y Ef WL WC WK WQ WM OpM WN WF OpN
theorem lbyte (x : Nat) (k : Nat) (hk : k ≤ 64) : IntKind.u8.wrap (((x / 2 ^ k : Nat)) : Int) = ((UInt8.ofNat (x / 2 ^ k)).toNat : Int) := by
 rw [UInt8.toNat_ofNat']
 show (((x / 2 ^ k : Nat) : Int) % 256) = _
 omega
theorem pows8 (x j : Nat) (h : j < 8) : UInt8.ofNat (x / 2 ^ (8 * (7 - j))) = (Lng.be64 x).getD j 0 := by
 have : j = 0 ∨ j = 1 ∨ j = 2 ∨ j = 3 ∨ j = 4 ∨ j = 5 ∨ j = 6 ∨ j = 7 := by omega
 rcases this with rfl | rfl | rfl | rfl | rfl | rfl | rfl | rfl
 all_goals simp [Lng.be64]
theorem lbe64_take (x j : Nat) (h : j < 8) : (Lng.be64 x).take j ++ [(Lng.be64 x).getD j 0] = (Lng.be64 x).take (j + 1) := by
 have : j = 0 ∨ j = 1 ∨ j = 2 ∨ j = 3 ∨ j = 4 ∨ j = 5 ∨ j = 6 ∨ j = 7 := by omega
 rcases this with rfl | rfl | rfl | rfl | rfl | rfl | rfl | rfl
 all_goals rfl
theorem whole_any (A : Option Addr) (n c : Nat) (xs : List UInt8) (w : World) (HA : Bs w A n xs) (hn : n ≤ 1000000) :
  Calls Tryz.prog 248 #[.slice A n c] w fun e w' => ∃ A' c', e = .returned (.slice A' (n + (17 + Lng.zeros n)) c') ∧ Row w' w.heap.size 5 A' (n + (17 + Lng.zeros n)) c' ((xs ++ Lng.pad n).map bv) ∧ Ext w w' := by
 have hxl := HA.1
 have hzl : Lng.zeros n < 128 := Nat.mod_lt _ (by omega)
 have hz : Lng.zeros n = (239 - n % 128) % 128 := rfl
 refine vc_enter1 34 Tryz.func248 rfl rfl rfl rfl ?_
 intro Q hret
 refine wc_seq ?_; intro K1 hK1
 refine wc_region ?_
 refine wl_y (y_assign rfl) rfl ?_
 refine wl_nil ?_
 refine wq_then_norm (hK1 ?_)
 refine wc_seq ?_; intro K2 hK2
 refine wc_region ?_
 refine wl_y (y_move rfl) rfl ?_
 refine wl_call Tryz.func192 rfl rfl rfl (clone_any A n c xs _ HA (by omega)) rfl ?_
 rintro e w1 ⟨A1, c1, rfl, O1, ex⟩
 refine ⟨_, rfl, ?_⟩
 have E1 := ex; have R1 : Row w1 w.heap.size 5 A1 n c1 (xs.map bv) := O1
 refine wl_ef (ef_lit (z := .int .u8 0) Tryz.underlying23 (by kernel_rfl) rfl rfl rfl rfl rfl) rfl ?_
 rintro _ w2 ⟨g2, rfl, B2, hg2, ex⟩
 have E2 := E1.ext ex; have R2 := R1.ext ex
 refine wl_ef (ef_app rfl rfl eltB R2 (At.blk (vs := [(128 : UInt8)].map bv) (B2.congr rfl)) rfl (by intro u hu; exact bv_one u hu) (by omega) (by omega) E2.size) rfl ?_
 rintro _ w3 ⟨A3, c3, rfl, R3, be, gr, hl⟩
 have E3 := E2.trans be; replace R3 := R3.cat
 refine wl_y (y_assign rfl) rfl ?_
 refine wl_nil ?_
 refine wq_then_norm (hK2 ?_)
 refine wc_seq ?_; intro K3 hK3
 refine wc_block ?_
 refine wc_loop (fun n' L wr => ∃ (k c4 : Nat) (A4 : Option Addr), L = [(0, .slice A n c), (3, .slice A4 (n + 1 + k) c4)] ∧ n' = Lng.zeros n - k ∧ (k ≤ Lng.zeros n ∧ Ext w wr ∧ Row wr w.heap.size 5 A4 (n + 1 + k) c4 ((xs ++ 128 :: List.replicate k 0).map bv))) _ _ ⟨0, c3, A3, rfl, rfl, by omega, E3, R3⟩ ⟨rfl, rfl, trivial⟩ ?_
 rintro KL1 n' L wr ⟨k, c4, A4, rfl, rfl, hk, E, R⟩ hL1
 refine wc_seq ?_; intro K4 hK4
 refine wc_seq ?_; intro K5 hK5
 refine wc_region ?_
 refine wl_y (y_move rfl) rfl ?_
 refine wl_y (y_len_slice rfl Tryz.underlying23) rfl ?_
 refine wl_y (y_rem rfl rfl (by omega) (show (((n + 1 + k : Nat) : Int).tmod 128) = (((n + 1 + k) % 128 : Nat) : Int) from rfl)) rfl ?_
 refine wl_y (y_neq rfl rfl) rfl ?_
 refine wl_nil ?_
 refine wq_then_norm (hK5 ?_)
 refine wc_dec rfl (fun hc1 => ?_) (fun hc1 => ?_)
 ·skip
  have hkz : k < Lng.zeros n := by omega
  refine wc_skip ?_
  refine wq_then_norm (hK4 ?_)
  refine wc_block ?_
  refine wc_region ?_
  refine wl_y (y_move rfl) rfl ?_
  refine wl_ef (ef_lit (z := .int .u8 0) Tryz.underlying23 (by kernel_rfl) rfl rfl rfl rfl rfl) rfl ?_
  rintro _ w5 ⟨g5, rfl, B5, hg5, ex⟩
  have E5 := E.ext ex; have R5 := R.ext ex
  refine wl_ef (ef_app rfl rfl eltB R5 (At.blk (vs := [(0 : UInt8)].map bv) (B5.congr rfl)) rfl (by intro u hu; exact bv_one u hu) (by omega) (by omega) E5.size) rfl ?_
  rintro _ w6 ⟨A6, c6, rfl, R6, be, gr, hl⟩
  have E6 := E5.trans be; replace R6 := R6.cat
  refine wl_y (y_assign rfl) rfl ?_
  refine wl_nil ?_
  refine wq_blk_norm ?_
  refine wq_then_norm ?_
  refine hL1 _ _ ⟨k + 1, c6, A6, rfl, rfl, by omega, E6, (by rw [List.append_assoc, List.cons_append, ← List.replicate_succ'] at R6; exact R6)⟩ (by omega) ⟨rfl, rfl, trivial⟩
 ·skip
  refine wc_exit ?_
  refine wq_then_exit ?_
  refine wq_then_exit ?_
  refine wq_blk_hit ?_
  refine wq_then_norm (hK3 ?_)
  refine wc_seq ?_; intro K6 hK6
  obtain rfl : k = Lng.zeros n := by omega
  refine wc_region ?_
  refine wl_y (y_move rfl) rfl ?_
  refine wl_ef (ef_appz (m := 8) rfl rfl eltB (kn := .i64) (by kernel_rfl) R (u := .int .u8 0) (by kernel_rfl) rfl (by omega) (by omega) (by omega) (by omega) E.size) rfl ?_
  rintro _ w7 ⟨A7, c7, rfl, R7, be, gr, hl⟩
  have E7 := E.trans be; have e7 : List.replicate 8 (Value.int .u8 0) = (List.replicate 8 (0 : UInt8)).map bv := rfl
  rw [e7] at R7
  replace R7 := R7.cat
  refine wl_y (y_assign rfl) rfl ?_
  refine wl_nil ?_
  refine wq_then_norm (hK6 ?_)
  refine wc_seq ?_; intro K7 hK7
  refine wc_seq ?_; intro K8 hK8
  refine wc_region ?_
  refine wl_y (y_assign rfl) rfl ?_
  refine wl_nil ?_
  refine wq_then_norm (hK8 ?_)
  refine wc_block ?_
  refine wc_loop (fun n' L wr => ∃ (j c8 : Nat) (A8 : Option Addr), L = [(0, .slice A n c), (3, .slice A8 (n + 1 + Lng.zeros n + 8 + j) c8), (4, .int .i64 (7 - (j : Int)))] ∧ n' = 8 - j ∧ (j ≤ 8 ∧ Ext w wr ∧ Row wr w.heap.size 5 A8 (n + 1 + Lng.zeros n + 8 + j) c8 ((xs ++ 128 :: List.replicate (Lng.zeros n) 0 ++ List.replicate 8 0 ++ (Lng.be64 (n * 8)).take j).map bv))) _ _ ⟨0, c7, A7, rfl, rfl, by omega, E7, (by rw [List.take_zero, List.append_nil]; exact R7)⟩ ⟨rfl, rfl, (by first | rfl | exact congrArg some (int_val (by omega))), trivial⟩ ?_
  rintro KL2 n' L wr ⟨j, c8, A8, rfl, rfl, hj, E, R⟩ hL2
  refine wc_seq ?_; intro K9 hK9
  refine wc_seq ?_; intro K10 hK10
  refine wc_region ?_
  refine wl_y (y_move rfl) rfl ?_
  refine wl_y (y_geq rfl rfl) rfl ?_
  refine wl_nil ?_
  refine wq_then_norm (hK10 ?_)
  refine wc_dec rfl (fun hc2 => ?_) (fun hc2 => ?_)
  ·skip
   refine wc_skip ?_
   refine wq_then_norm (hK9 ?_)
   refine wc_seq ?_; intro K11 hK11
   refine wc_block ?_
   refine wc_region ?_
   refine wl_y (y_move rfl) rfl ?_
   refine wl_y (y_move rfl) rfl ?_
   refine wl_y (y_len_slice rfl Tryz.underlying23) rfl ?_
   refine wl_y (y_conv rfl Tryz.underlying3 Tryz.underlying38 (c := (n : Int)) (show IntKind.u64.wrap (n : Int) = (n : Int) from u64_nat rfl (by omega))) rfl ?_
   refine wl_y (y_mul rfl rfl (u64_nat (n := n * 8) (by omega) (by omega))) rfl ?_
   refine wl_y (y_move rfl) rfl ?_
   refine wl_y (y_mul rfl rfl (i64_nat (n := 8 * (7 - j)) (by omega) (by omega))) rfl ?_
   refine wl_y (y_shr rfl rfl (by omega) (shr64 (n * 8) (8 * (7 - j)) (by omega))) rfl ?_
   refine wl_y (y_conv rfl Tryz.underlying38 Tryz.underlying5 (lbyte _ _ (by omega))) rfl ?_
   refine wl_ef (ef_lit (z := .int .u8 0) Tryz.underlying23 (by kernel_rfl) rfl rfl rfl rfl rfl) rfl ?_
   rintro _ w9 ⟨g9, rfl, B9, hg9, ex⟩
   have E9 := E.ext ex; have R9 := R.ext ex
   refine wl_ef (ef_app rfl rfl eltB R9 (At.blk (vs := [UInt8.ofNat (n * 8 / 2 ^ (8 * (7 - j)))].map bv) (B9.congr rfl)) rfl (by intro u hu; exact bv_one u hu) (by omega) (by omega) E9.size) rfl ?_
   rintro _ w10 ⟨A10, c10, rfl, R10, be, gr, hl⟩
   have E10 := E9.trans be; replace R10 := R10.cat; rw [pows8 _ _ (by omega), List.append_assoc _ (List.take j _), lbe64_take _ _ (by omega)] at R10
   refine wl_y (y_assign rfl) rfl ?_
   refine wl_nil ?_
   refine wq_blk_norm ?_
   refine wq_then_norm (hK11 ?_)
   refine wc_region ?_
   refine wl_y (y_move rfl) rfl ?_
   refine wl_y (y_sub rfl rfl (i64_ok (by omega) (by omega))) rfl ?_
   refine wl_y (y_assign rfl) rfl ?_
   refine wl_nil ?_
   refine wq_then_norm ?_
   refine hL2 _ _ ⟨j + 1, c10, A10, rfl, rfl, by omega, E10, R10⟩ (by omega) ⟨rfl, rfl, (by first | rfl | exact congrArg some (int_val (by omega))), trivial⟩
  ·skip
   refine wc_exit ?_
   refine wq_then_exit ?_
   refine wq_then_exit ?_
   refine wq_blk_hit ?_
   refine wq_then_norm (hK7 ?_)
   refine wc_seq ?_; intro K12 hK12
   refine wc_region ?_
   refine wl_y (y_move rfl) rfl ?_
   refine wl_y (y_assign rfl) rfl ?_
   refine wl_nil ?_
   refine wq_then_norm (hK12 ?_)
   refine wc_ret ?_
   refine hret rfl ?_
   obtain rfl : j = 8 := by omega
   exact ⟨A8, c8, (by congr 2; omega), R.congr (by omega) (by congr 1; rw [show (Lng.be64 (n * 8)).take 8 = Lng.be64 (n * 8) from rfl]; simp [Lng.pad]), E⟩
end
section
open Go.RowKit
attribute [local irreducible] Y Ef WL WC WK WQ WM OpM WN WF OpN
def lfolds (s : Lng.S8) (l : List UInt8) (js : List Nat) : Lng.S8 := js.foldl (fun s j => Lng.step s ((l.drop (128 * j)).take 128)) s
theorem lfolds_range (s : Lng.S8) (l : List UInt8) (k : Nat) : lfolds s l (List.range k) = Lng.blocks s l k := by
 induction k with
 | zero => rfl
 | succ k ih => unfold lfolds at *; rw [List.range_succ, List.foldl_append, ih]; rfl
theorem lfolds_fin (s : Lng.S8) (l : List UInt8) (k : Nat) : lfolds s l ((List.finRange k).map (·.val)) = Lng.blocks s l k := by
 rw [← lfolds_range]; congr 1
 exact List.ext_getElem (by simp) (fun i h1 h2 => by simp)
theorem lfolds_snoc (s : Lng.S8) (l : List UInt8) (js : List Nat) (j : Nat) : lfolds s l (js ++ [j]) = Lng.step (lfolds s l js) ((l.drop (128 * j)).take 128) := by
 unfold lfolds; rw [List.foldl_append]; rfl
theorem lfolds_ok (l : List UInt8) : ∀ (js : List Nat) {s : Lng.S8}, s.ok → (lfolds s l js).ok
 | [], _, h => h
 | j :: js, s, _ => lfolds_ok l js (Lng.step_ok s ((l.drop (128 * j)).take 128))
theorem lstate_byte (S : Lng.S8) (i : Nat) (h : i < 64) : UInt8.ofNat (S.list.getD (i / 8) 0 / 2 ^ (56 - i % 8 * 8)) = S.bytes.getD i 0 := by
 have e : 56 - i % 8 * 8 = 8 * (7 - i % 8) := by omega
 rw [e, pows8 _ _ (Nat.mod_lt _ (by omega))]
 obtain ⟨q, r, hq, hr, rfl⟩ : ∃ q r, q < 8 ∧ r < 8 ∧ i = 8 * q + r := ⟨i / 8, i % 8, by omega, by omega, by omega⟩
 rw [show (8 * q + r) / 8 = q from by omega, show (8 * q + r) % 8 = r from by omega]
 have hq' : q = 0 ∨ q = 1 ∨ q = 2 ∨ q = 3 ∨ q = 4 ∨ q = 5 ∨ q = 6 ∨ q = 7 := by omega
 have hr' : r = 0 ∨ r = 1 ∨ r = 2 ∨ r = 3 ∨ r = 4 ∨ r = 5 ∨ r = 6 ∨ r = 7 := by omega
 rcases hq' with rfl | rfl | rfl | rfl | rfl | rfl | rfl | rfl <;> rcases hr' with rfl | rfl | rfl | rfl | rfl | rfl | rfl | rfl <;> rfl
theorem fill_at (l : List UInt8) (k : Nat) (h : k < l.length) : (bys (l.take k ++ List.replicate (l.length - k) 0)).setIfInBounds (0 + k) (.int .u8 ((l.getD k 0).toNat : Int)) = bys (l.take (k + 1) ++ List.replicate (l.length - (k + 1)) 0) := by
 have e : (l.take k).length = k := by simp; omega
 rw [Nat.zero_add]
 unfold bys
 apply Array.ext'
 simp only [Array.toList_setIfInBounds]
 rw [show l.length - k = (l.length - (k + 1)) + 1 from by omega, List.replicate_succ, List.map_append, List.set_append_right _ _ (by simp; omega), List.map_cons, List.length_map, e, Nat.sub_self, List.set_cons_zero, List.take_succ_eq_append_getElem h, List.append_assoc, List.map_append, List.map_append, List.map_cons, List.map_nil]
 congr 1
 have : l.getD k 0 = l[k] := by simp [h]
 rw [this]
 rfl
theorem lstep_k (A : Option Addr) (c : Nat) (xs : List UInt8) (s : Lng.S8) (k : Array Value) (w : World) (HA : Bs w A 128 xs) (hc : 128 ≤ c) (hc2 : c ≤ 9223372036854775807) (hs : s.ok) (hk : k = nums .u64 Lng.K) :
  Calls Tryz.prog 249 #[.agg (nums .u64 s.list), .agg k, .slice A 128 c] w fun e w' => e = .returned (.agg (nums .u64 (Lng.step s xs).list)) ∧ Ext w w' := by
 subst hk; exact lstep_any A c xs s w HA hc hc2 hs
set_option maxHeartbeats 1000000 in
theorem lsum_any (A : Option Addr) (n c : Nat) (xs : List UInt8) (w : World) (HA : Bs w A n xs) (hn : n ≤ 900000) :
  Calls Tryz.prog 210 #[.slice A n c] w fun e w' => e = .returned (.agg (bys (Lng.sum xs))) ∧ Ext w w' := by
 have E := Ext.refl w
 have hxl := HA.1
 have hz : Lng.zeros n < 128 := Nat.mod_lt _ (by omega)
 obtain ⟨M, hM⟩ : ∃ M, n + (17 + Lng.zeros n) = 128 * M := ⟨(n + (17 + Lng.zeros n)) / 128, by have := Lng.padded_mod n; rw [Lng.pad_length] at this; omega⟩
 refine vc_enterMc1 (s := 64) (3) 35 Tryz.func210 rfl rfl rfl Tryz.underlying252 rfl (by kernel_rfl) rfl ?_
 intro Q hretD
 refine wc_seq ?_; intro K1 hK1
 refine wc_region ?_
 refine wl_ef (ef_alloc (Z := bys (zbs 64)) (by kernel_rfl)) rfl ?_
 rintro _ w1 ⟨g2, rfl, B2, hg2, ex⟩
 replace E := E.ext ex
 skip
 refine wl_nil ?_
 refine wq_then_norm (hK1 ?_)
 refine wc_seq ?_; intro K2 hK2
 refine wc_region ?_
 refine wl_call Tryz.func246 rfl rfl rfl (lbegin_any _) rfl ?_
 rintro e w2 ⟨rfl, ex⟩
 refine ⟨_, rfl, ?_⟩
 replace E := E.ext ex
 replace B2 := B2.ext ex
 skip
 refine wl_call Tryz.func247 rfl rfl rfl (lconst_any _) rfl ?_
 rintro e w3 ⟨rfl, ex⟩
 refine ⟨_, rfl, ?_⟩
 replace E := E.ext ex
 replace B2 := B2.ext ex
 skip
 have hs3 := E.size; have hl2 := B2.lt
 refine wl_ef (ef_alloc (Z := nums .u64 (zrs 8)) (by kernel_rfl)) rfl ?_
 rintro _ w4 ⟨g3, rfl, B3, hg3, ex⟩
 replace E := E.ext ex
 replace B2 := B2.ext ex
 have hl3 := B3.lt
 refine wl_ef (ef_alloc (Z := nums .u64 (zrs 80)) (by kernel_rfl)) rfl ?_
 rintro _ w5 ⟨g4, rfl, B4, hg4, ex⟩
 replace E := E.ext ex
 replace B2 := B2.ext ex
 replace B3 := B3.ext ex
 skip
 refine wl_ef (ef_storeW rfl rfl (by kernel_rfl) B3 rfl (nums_one _ _)) rfl ?_
 rintro _ w6 ⟨rfl, D3, cg⟩
 replace E := E.chg cg (by omega); replace B2 := B2.chg cg (by omega); replace B4 := B4.chg cg (by omega)
 refine wl_ef (ef_storeW rfl rfl (by kernel_rfl) B4 (by kernel_rfl) (nums_one _ _)) rfl ?_
 rintro _ w7 ⟨rfl, D4, cg⟩
 replace E := E.chg cg (by omega); replace B2 := B2.chg cg (by omega); replace D3 := D3.chg cg (by omega); obtain ⟨KK, hKK⟩ : ∃ k, k = nums .u64 Lng.K := ⟨_, rfl⟩; have hKs : KK.size = 80 := by rw [hKK, nums_size]; rfl
 rw [← hKK] at D4 
 refine wl_nil ?_
 refine wq_then_norm (hK2 ?_)
 refine wc_seq ?_; intro K3 hK3
 refine wc_seq ?_; intro K4 hK4
 refine wc_region ?_
 refine wl_y (y_move rfl) rfl ?_
 have hs7 := E.size; have hm2 := B2.lt; have hm3 := D3.lt; have hm4 := D4.lt
 refine wl_call Tryz.func248 rfl rfl rfl (whole_any A n c xs _ (HA.wk E) (by omega)) rfl ?_
 rintro e w8 ⟨A5, c5, rfl, R5, ex⟩
 refine ⟨_, rfl, ?_⟩
 replace E := E.ext ex
 replace B2 := B2.ext ex
 replace D3 := D3.ext ex
 replace D4 := D4.ext ex
 have HT := R5.bs; obtain ⟨g5, v5, rfl, _, _, hb5, hl5, _⟩ := R5.get (i := 0) (by omega); have hcap := R5.cap; have hz5 := ex.size; rw [hM] at HT hcap ⊢; obtain ⟨T, hT⟩ : ∃ T, T = xs ++ Lng.pad n := ⟨_, rfl⟩; rw [← hT] at HT
 refine wl_call Tryz.func187 rfl rfl rfl (chunk_any g5 0 c5 128 M _ (by omega)) rfl ?_
 rintro e w9 ⟨b1, b2, rfl, hb1, hb2, C1, C2, ex⟩
 refine ⟨_, rfl, ?_⟩
 replace E := E.ext ex
 replace B2 := B2.ext ex
 replace D3 := D3.ext ex
 replace D4 := D4.ext ex
 replace HT := HT.ext ex
 have hq1 := C1.lt; have hq2 := C2.lt; have hE6 := E.size
 refine wl_nil ?_
 refine wq_then_norm (hK4 ?_)
 refine wc_block ?_
 refine wc_range (n := 3) (S := fun xs => xs = List.finRange M) (by omega) rfl (enters Tryz.func241 rfl rfl) (chunk_stops 2 g5 0 c5 128 M b1 b2 _ (by omega) hcap (by omega) C1 C2) KpB.trans (fun W l o o' hl ho _ _ => kpb_put W l o o' (by omega) (by omega) ho) (fun pre W => Blk W g3 284 (nums .u64 (lfolds Lng.IV T (pre.map (·.val))).list) ∧ Blk W g4 286 KK ∧ Blk W g2 252 (bys (zbs 64)) ∧ Bs W (some ⟨g5, 0, none⟩) (128 * M) T ∧ Below w.heap.size w W ∧ w9.heap.size ≤ W.heap.size) (OwnFrom.and own_blk (OwnFrom.and own_blk (OwnFrom.and own_blk (OwnFrom.and own_bs (OwnFrom.and (ownFrom_below (Nat.le_refl _) (by omega)) own_size))))) ⟨D3, D4, B2, HT, E, Nat.le_refl _⟩ rfl rfl rfl ?_ ?_
 ·intro Q2 pre v W2 ⟨I1, I2, I3, I4, I5, I6⟩ hl hout
  have hv := v.isLt
  obtain ⟨S0, hS0⟩ : ∃ s, s = lfolds Lng.IV T (pre.map (·.val)) := ⟨_, rfl⟩
  rw [← hS0] at I1
  have hok0 : S0.ok := by rw [hS0]; exact lfolds_ok T _ Lng.IV_ok
  refine wl_y (y_loadw rfl Tryz.underlying284 rfl (by kernel_rfl) I1) rfl ?_
  refine wl_y (y_loadw rfl Tryz.underlying286 rfl (by rw [hKs]; kernel_rfl) I2) rfl ?_
  refine wl_y (y_move rfl) rfl ?_
  refine wl_call Tryz.func249 rfl rfl rfl (lstep_k (some ⟨g5, 0 + 128 * v.val, none⟩) 128 ((T.drop (128 * v.val)).take 128) S0 KK _ ((I4.cutOff (128 * v.val)).take (by omega)) (Nat.le_refl _) (by omega) hok0 hKK) rfl ?_
  rintro e w10 ⟨rfl, ex⟩
  refine ⟨_, rfl, ?_⟩
  have J1 := I1.ext ex; have J4 := I4.ext ex
  refine wl_ef (ef_storeW rfl rfl (by rw [nums_size, ls8_len]; kernel_rfl) J1 (by rw [nums_size, nums_size, ls8_len, ls8_len]) (nums_one _ _)) rfl ?_
  rintro _ w11 ⟨rfl, N3, cg⟩
  have hgr : W2.grownBy w11 (some g3) := Chg.tr (Chg.ofExt ex g3) cg
  refine wl_nil ?_
  exact hout (keeps_grown hgr (by omega)) (kpb_grown hgr (by omega) (by omega) (by omega) (by omega)) ⟨by rw [List.map_append, List.map_singleton, lfolds_snoc, ← hS0]; exact N3, I2.grown hgr (by intro h; injection h with h; omega), I3.grown hgr (by intro h; injection h with h; omega), I4.grown hgr (by intro b off e; injection e with e; injection e; omega), below_grown I5 hgr (by omega) I5.size, Nat.le_trans I6 hgr.size⟩
 ·intro D xs2 W2 hD hS2 ⟨I1, I2, I3, I4, I5, I6⟩ hKD
  obtain rfl := hS2
  rw [lfolds_fin] at I1
  have F := Ext.refl W2
  obtain ⟨S, hS⟩ : ∃ S, S = Lng.blocks Lng.IV T M := ⟨_, rfl⟩
  rw [← hS] at I1
  have hsum : Lng.sum xs = S.bytes := by unfold Lng.sum; rw [hxl, ← hT, hS, hT, List.length_append, Lng.pad_length, hxl, hM, Nat.mul_div_cancel_left _ (by omega)]
  have hSl := Lng.bytes_length S
  have hzW := I5.size
  refine wq_blk_norm ?_
  refine wq_then_norm (hK3 ?_)
  refine wc_seq ?_; intro K5 hK5
  refine wc_region ?_
  refine wl_ef (ef_alloc (Z := bys (zbs 64)) (by kernel_rfl)) rfl ?_
  rintro _ w12 ⟨g6, rfl, B6, hg6, ex⟩
  have F := ex
  refine wl_nil ?_
  refine wq_then_norm (hK5 ?_)
  refine wc_seq ?_; intro K6 hK6
  refine wc_seq ?_; intro K7 hK7
  refine wc_region ?_
  refine wl_y (y_move rfl) rfl ?_
  refine wl_nil ?_
  refine wq_then_norm (hK7 ?_)
  refine wc_block ?_
  refine wc_loop (fun n' L wr => ∃ i : Nat, L = [(2, .pointer (some ⟨g2, 0, none⟩)), (3, .pointer (some ⟨g3, 0, none⟩)), (6, .pointer (some ⟨g6, 0, none⟩)), (18, .int .i64 (i : Int))] ∧ n' = 64 - i ∧ (i ≤ 64 ∧ Ext W2 wr ∧ Blk wr g6 252 (bys (S.bytes.take i ++ List.replicate (S.bytes.length - i) 0)))) _ _ ⟨0, rfl, rfl, by omega, F, B6⟩ ⟨rfl, rfl, rfl, (by first | rfl | exact congrArg some (int_val (by omega))), trivial⟩ ?_
  rintro KL1 n' L wr ⟨i, rfl, rfl, hi, F, D6⟩ hL1
  refine wc_seq ?_; intro K8 hK8
  refine wc_region ?_
  refine wl_y (y_lss rfl rfl) rfl ?_
  refine wl_nil ?_
  refine wq_then_norm (hK8 ?_)
  refine wc_seq ?_; intro K9 hK9
  refine wc_dec rfl (fun hc1 => ?_) (fun hc1 => ?_)
  ·skip
   refine wc_skip ?_
   refine wq_then_norm (hK9 ?_)
   refine wc_seq ?_; intro K10 hK10
   refine wc_block ?_
   refine wc_seq ?_; intro K11 hK11
   refine wc_region ?_
   refine wl_y (y_move rfl) rfl ?_
   refine wl_y (y_assign rfl) rfl ?_
   refine wl_nil ?_
   refine wq_then_norm (hK11 ?_)
   refine wc_region ?_
   refine wl_y (y_move rfl) rfl ?_
   refine wl_y (y_move rfl) rfl ?_
   refine wl_y (y_quo rfl rfl (by omega) (show IntKind.i64.wrap (((i : Nat) : Int).tdiv 8) = ((i / 8 : Nat) : Int) from i64_nat rfl (by omega))) rfl ?_
   refine wl_y (y_ixa1 rfl rfl Tryz.underlying284 (by kernel_rfl) rfl (by omega)) rfl ?_
   refine wl_y (y_load1 rfl Tryz.underlying38 rfl ((I1.ext F).get (lnum_at S.list (by rw [ls8_len]; omega)))) rfl ?_
   refine wl_y (y_move rfl) rfl ?_
   refine wl_y (y_rem rfl rfl (by omega) (show (((i : Nat) : Int).tmod 8) = ((i % 8 : Nat) : Int) from rfl)) rfl ?_
   refine wl_y (y_mul rfl rfl (i64_nat (n := i % 8 * 8) (by omega) (by omega))) rfl ?_
   refine wl_y (y_sub rfl rfl (i64_nat (n := 56 - i % 8 * 8) (by omega) (by omega))) rfl ?_
   refine wl_y (y_shr rfl rfl (by omega) (shr64 _ _ (by omega))) rfl ?_
   refine wl_y (y_conv rfl Tryz.underlying38 Tryz.underlying5 (show _ = ((S.bytes.getD i 0).toNat : Int) from by rw [lbyte _ _ (by omega), lstate_byte _ _ (by omega)])) rfl ?_
   refine wl_y (y_ixa1 rfl rfl Tryz.underlying252 (by kernel_rfl) rfl (by omega)) rfl ?_
   refine wl_ef (ef_storeB rfl rfl rfl (by kernel_rfl) D6 (by rw [bys_size, List.length_append, List.length_take, List.length_replicate]; omega)) rfl ?_
   rintro _ w13 ⟨rfl, D7, cg⟩
   have F7 := F.chg cg hg6; rw [fill_at _ _ (by omega)] at D7
   refine wl_nil ?_
   refine wq_blk_norm ?_
   refine wq_then_norm (hK10 ?_)
   refine wc_region ?_
   refine wl_y (y_add rfl rfl (i64_ok (by omega) (by omega))) rfl ?_
   refine wl_y (y_move rfl) rfl ?_
   refine wl_nil ?_
   refine wq_then_norm ?_
   refine hL1 _ _ ⟨i + 1, rfl, rfl, by omega, F7, D7⟩ (by omega) ⟨rfl, rfl, rfl, (by first | rfl | exact congrArg some (int_val (by omega))), trivial⟩
  ·skip
   refine wc_exit ?_
   refine wq_then_exit ?_
   refine wq_then_exit ?_
   refine wq_blk_hit ?_
   refine wq_then_norm (hK6 ?_)
   refine wc_seq ?_; intro K12 hK12
   refine wc_region ?_
   obtain rfl : i = 64 := by omega
   have D8 : Blk wr g6 252 (bys (Lng.sum xs)) := by rw [hsum]; rw [List.take_of_length_le (by omega), hSl, Nat.sub_self, List.replicate_zero, List.append_nil] at D6; exact D6
   have HD0 := (show Dfr W2 D from hKD).ext F
   have E8 := I5.trans (F.mono I5.size)
   have C2 := I3.ext F
   have hDw : w.heap.size ≤ D := by omega
   refine wl_y (y_loadw rfl Tryz.underlying252 rfl (by kernel_rfl) D8) rfl ?_
   refine wl_ef (ef_storeW rfl rfl (by rw [bys_size, Lng.sum_length]; kernel_rfl) C2 (by rw [bys_size, bys_size, Lng.sum_length]; rfl) (bys_one _)) rfl ?_
   rintro _ w14 ⟨rfl, C3, cg⟩
   have HD : Dfr w14 D := (cg.block D HD0.lt (by intro h; injection h with h; omega)).trans HD0; have E9 : Ext w (w14.putObj D (.deferred none)) := (E8.chg cg hg2).trans (belowK_b (w := w) (Nat.le_refl _) w14 D _ _ hDw HD rfl rfl)
   refine wl_nil ?_
   refine wq_then_norm (hK12 ?_)
   refine wc_ret ?_
   refine hretD rfl HD C3 (by rw [bys_size, Lng.sum_length]) ?_
   exact ⟨rfl, E9⟩
theorem lof_any (A : Option Addr) (n c : Nat) (xss : List (List UInt8)) (w : World) (HA : Bss w A n xss) (hn : n ≤ 1000000) (hl : xss.flatten.length ≤ 900000) :
  Calls Tryz.prog 142 #[.slice A n c] w fun e w' => ∃ g, e = .returned (.slice (some ⟨g, 0, none⟩) 64 64) ∧ w.heap.size ≤ g ∧ Blk w' g 252 (bys (Lng.sum xss.flatten)) ∧ Ext w w' := by
 have E := Ext.refl w
 refine vc_enter1 8 Tryz.func142 rfl rfl rfl rfl ?_
 intro Q hret
 refine wc_seq ?_; intro K1 hK1
 refine wc_region ?_
 refine wl_y (y_assign rfl) rfl ?_
 refine wl_nil ?_
 refine wq_then_norm (hK1 ?_)
 refine wc_seq ?_; intro K2 hK2
 refine wc_region ?_
 refine wl_y (y_move rfl) rfl ?_
 refine wl_call Tryz.func147 rfl rfl rfl (concat_any A n c xss _ HA (by omega) (by omega)) rfl ?_
 rintro e w1 ⟨A1, m1, c1, rfl, O1, ex⟩
 refine ⟨_, rfl, ?_⟩
 replace E := E.ext ex
 have H1 := O1.bs; have hm1 := H1.1
 refine wl_call Tryz.func210 rfl rfl rfl (lsum_any A1 m1 c1 xss.flatten _ H1 (by omega)) rfl ?_
 rintro e w2 ⟨rfl, ex⟩
 refine ⟨_, rfl, ?_⟩
 replace E := E.ext ex
 skip
 have E0 := E; have hs := E.size; have F := Ext.refl w2
 refine wl_ef (ef_alloc (Z := bys (zbs 64)) (by kernel_rfl)) rfl ?_
 rintro _ w3 ⟨g3, rfl, B3, hg3, ex⟩
 replace E := E.ext ex
 replace F := F.ext ex
 refine wl_ef (ef_storeW rfl rfl (by rw [bys_size, Lng.sum_length]; kernel_rfl) B3 (by rw [bys_size, bys_size, Lng.sum_length]; rfl) (bys_one _)) rfl ?_
 rintro _ w4 ⟨rfl, B4, cg⟩
 replace F := F.chg cg hg3; have E4 := E0.ext F
 refine wl_nil ?_
 refine wq_then_norm (hK2 ?_)
 refine wc_seq ?_; intro K3 hK3
 refine wc_region ?_
 refine wl_y (y_cutarr (s := 1) rfl Tryz.underlying252 (by kernel_rfl)) rfl ?_
 refine wl_y (y_assign rfl) rfl ?_
 refine wl_nil ?_
 refine wq_then_norm (hK3 ?_)
 refine wc_ret ?_
 refine hret rfl ?_
 exact ⟨g3, rfl, by omega, B4, E4⟩
end
end Go.Proofs.YtjllhimhiekchaaGreat
