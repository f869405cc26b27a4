/- The reference's digest, its bits and words: plain laws. No program in sight. -/
import Derived.Test.YtgfafidlkldeaaaGreatBigC
import Derived.Lib.AppendZeros
import Derived.Test.YtgfafidlkldeaaaGreatLongA
import Derived.Test.YtgfafidlkldeaaaGreatChunkA
import Derived.Test.YtgfafidlkldeaaaGreatAu
import Derived.Test.YtgfafidlkldeaaaGreatSl
import Derived.Test.YtgfafidlkldeaaaGreatRow
set_option linter.unusedVariables false
set_option linter.unusedSimpArgs false
set_option maxHeartbeats 4000000
set_option maxRecDepth 4000
namespace Go.Proofs.YtgfafidlkldeaaaGreat
section
section
open Go.RowKit Tryz
section
variable {P : Program} {w : World} {ty : TypeId}
theorem nZ (t tn e : TypeId) (i : TypeInfo) (z : Value) (k kn : IntKind) (ht : P.underlying t = some (.slice e)) (htn : P.underlying tn = some (.int kn)) (hi : P.info? e = some i) (hz : i.zero = some z)
  (g sLen sCap m : Nat) (cur : Array Value) (hg : w.heap[g]? = some (.cells cur e (0, 0))) (hs : i.size = 1) (h0 : 0 < m) (Vy : (m : Int) ≤ 9223372036854775807) (Vz : m * i.bytes ≤ 281474976710656)
  (news : List Value) (hnews : (Builtin.zeroCells z.cells m).toList = news) (h1 : ∀ u ∈ news, u.oneCell' = true) (hroom : sLen + m ≤ sCap) (hfit : sLen + news.length ≤ cur.size) :
  (Builtin.append_ #[t, tn] ty #[.slice (some ⟨g, 0, none⟩) sLen sCap, .int k m]).run P w = .ok (.slice (some ⟨g, 0, none⟩) (sLen + m) sCap) (w.setRow g (cur.toList.take sLen ++ news ++ cur.toList.drop (sLen + news.length)).toArray) := by
 have hst := run_storeCells_at P g sLen e news 0 cur w hg (by simpa using hfit) h1
 simp only [Nat.add_zero] at hst
 have hw : IntKind.i64.wrap (m : Int) = m := by rw [IntKind.wrap_i64]; omega
 have hneg : ¬ ((m : Int) < 0) := by omega
 have Vx : m ≠ 0 := by omega
 have Vw : ¬ (281474976710656 < (m : Int) * (i.bytes : Int)) := by rw [← Int.natCast_mul]; omega
 simp [Builtin.append_, run_underlying ht, run_underlying htn, sizeOf, typeInfo, zeroValue, hi, hz, asInt, asIntOf, hw, hneg, Vx, hs, Vw, hroom, Addr.add_lit, hnews, hst]
theorem oq (t tn e : TypeId) (i : TypeInfo) (z : Value) (k kn : IntKind) (ht : P.underlying t = some (.slice e)) (htn : P.underlying tn = some (.int kn)) (hi : P.info? e = some i) (hz : i.zero = some z)
  (b : Addr) (sLen sCap m : Nat) (olds : List Value) (hlo : olds.length = sLen * i.size) (holds : ∀ j v, olds[j]? = some v → w.cell? (b.add j) = some v) (hs : i.size = 1) (h0 : 0 < m) (Vz : m * i.bytes ≤ 281474976710656)
  (news : List Value) (hnews : (Builtin.zeroCells z.cells m).toList = news)
  (hg : sCap < sLen + m) (VC : ((sLen + m : Nat) : Int) ≤ 9223372036854775807) (hfit : Builtin.nextslicecap (sLen + m) sCap * i.bytes ≤ 281474976710656) :
  (Builtin.append_ #[t, tn] ty #[.slice (some b) sLen sCap, .int k m]).run P w = .ok (.slice (some ⟨w.heap.size, 0, none⟩) (sLen + m) (grownCap w (sLen + m) sCap e))
    (w.drew.alloc (.cells (olds.toArray ++ news.toArray ++ Builtin.zeroCells z.cells (grownCap w (sLen + m) sCap e - (sLen + m))) e)) := by
 have hn : ¬ (sLen + m ≤ sCap) := by omega
 have Vw : ¬ (9223372036854775807 < ((sLen : Int) + (m : Int))) := by omega
 have Vx : ¬ (281474976710656 < Builtin.nextslicecap (sLen + m) sCap * i.bytes) := by omega
 have hw : IntKind.i64.wrap (m : Int) = m := by rw [IntKind.wrap_i64]; omega
 have hneg : ¬ ((m : Int) < 0) := by omega
 have VA : m ≠ 0 := by omega
 have Vy : ¬ (281474976710656 < (m : Int) * (i.bytes : Int)) := by rw [← Int.natCast_mul]; omega
 have hfo := run_firstCells_some (P := P) w.drew i.size sLen b sLen sCap olds hlo (by simpa using holds)
 rw [hs] at hfo
 have VB : Builtin.zeroCells z.cells m = news.toArray := by rw [← hnews]
 simp [Builtin.append_, run_underlying ht, run_underlying htn, sizeOf, typeInfo, zeroValue, hi, hz, asInt, asIntOf, hw, hneg, VA, hs, Vy, hn, Vw, Vx, Question.forced, hfo, newRow, grownCap, VB]
 congr 2
 apply Array.ext'
 simp [List.append_assoc]
theorem pk {A : Oa} {n m c base bytes : Nat} {t tn e : TypeId} {k kn : IntKind} {xs : List Value} {u : Value} (hE : ym P t e bytes) (htn : P.underlying tn = some (.int kn)) (hown : Row w base e A n c xs)
  (hu : (P.info? e).map (·.zero) = some (some u)) (h1 : u.oneCell' = true) (hn : 0 < n) (h0 : 0 < m) (hlen : (n + m) * bytes ≤ 140737488355328) (Vy : n + m ≤ 140737488355328) (hbase : base ≤ w.heap.size) :
  ∃ A' c' w', (Builtin.append_ #[t, tn] ty #[.slice A n c, .int k m]).run P w = .ok (.slice A' (n + m) c') w' ∧ Row w' base e A' (n + m) c' (xs ++ List.replicate m u) ∧ Below base w w' ∧ w.grownBy w' (Value.slice A (n + m) c).ownBlock ∧ ((Value.slice A' (n + m) c').ownBlock = (Value.slice A (n + m) c).ownBlock ∨ (Value.slice A' (n + m) c').ownBlock = some w.heap.size) := by
 obtain ⟨ht, i, z, hi, hz, hs, hb, hzs⟩ := hE
 have hzu : z = u := by rw [hi] at hu; simp only [Option.map_some, Option.some.injEq] at hu; rw [hz] at hu; injection hu
 subst hzu
 have Vx : z.cells = #[z] := kM h1
 have hnews : (Builtin.zeroCells z.cells m).toList = List.replicate m z := by
  rw [Vx]
  simp only [Builtin.zeroCells, Array.size, List.length_singleton, Nat.mul_one, Array.toList_map, Array.toList_range]
  apply List.ext_getElem
  ·simp
  ·intro j h2 h3
   simp [Nat.mod_one]
 have hone : ∀ v ∈ List.replicate m z, v.oneCell' = true := fun v hv => by rw [List.eq_of_mem_replicate hv]; exact h1
 have hlx := hown.len
 rcases hown.2 with ⟨hv, Vz⟩ | ⟨g, cap, cur, hv, hbg, hg, hnc, hcm, hcs, htake⟩
 ·omega
 ·injection hv with h2 h3 h4
  subst h2; subst h4
  have hmb : m * bytes ≤ 140737488355328 := Nat.le_trans (Nat.mul_le_mul_right _ Om) hlen
  rw [Nat.mul_one] at hcs htake
  by_cases hroom : n + m ≤ c
  ·have hr := nZ (P := P) (w := w) (ty := ty) t tn e i z k kn ht htn hi hz g n c m cur hg hs h0 Om (by rw [hb]; omega) _ hnews hone hroom (by rw [List.length_replicate]; omega)
   refine ⟨_, c, _, hr, ⟨by rw [List.length_append, List.length_replicate]; omega, .inr ⟨g, c, _, rfl, hbg, setRow_heap w g cur _ e _ hg, hroom, hcm, ?_, ?_⟩⟩, ?_, ?_, .inl rfl⟩
   ·simp only [List.size_toArray, List.length_append, List.length_take, List.length_drop, Array.length_toList, List.length_replicate]; omega
   ·rw [htake, Nat.mul_one, List.take_append_of_le_length (by rw [List.length_append, List.length_replicate]; omega), List.take_of_length_le (by rw [List.length_append, List.length_replicate]; omega)]
   ·exact ⟨rfl, rfl, rfl, by simp [World.setRow], fun j hj => setRow_other w g j _ Om⟩
   ·exact ⟨rfl, rfl, rfl, by simp, fun j _ hj => setRow_other w g j _ (fun e => hj (by simp [Value.ownBlock, e]))⟩
  ·have holds : ∀ j v, xs[j]? = some v → w.cell? ((⟨g, 0, none⟩ : Addr).add j) = some v := World.ownsRow.cells hown rfl
   have hr := oq (P := P) (w := w) (ty := ty) t tn e i z k kn ht htn hi hz ⟨g, 0, none⟩ n c m xs (by rw [hs]; omega) holds hs h0 (by rw [hb]; omega) _ hnews Om Om (growslice_fits Om (by rw [hb]; omega))
   have hge := grownCap_ge w (n + m) c e
   have Vw : grownCap w (n + m) c e ≤ maxLen := grownCap_le_maxLen w (n + m) c e (by unfold maxLen; omega)
   refine ⟨_, _, _, hr, ⟨by rw [List.length_append, List.length_replicate]; omega, .inr ⟨w.heap.size, _, _, rfl, hbase, heap_alloc_new w.drew _, hge, Vw, ?_, ?_⟩⟩, ?_, ?_, .inr rfl⟩
   ·simp only [Array.size_append, List.size_toArray, size_zeroCells, hzs, List.length_replicate, hlx]; omega
   ·simp only [Array.toList_append, List.append_assoc]
    rw [← List.append_assoc, List.take_append_of_le_length (by rw [List.length_append, List.length_replicate]; omega), List.take_of_length_le (by rw [List.length_append, List.length_replicate]; omega)]
   ·exact (Below.refl _ _).drew.alloc hbase _
   ·exact ⟨rfl, rfl, rfl, by simp, fun j hj _ => ((Below.refl w.heap.size w).drew.alloc (Nat.le_refl _) _).block j hj⟩
theorem KG {L : List (Nat × Value)} {x y : Operand} {A : Oa} {n m c base bytes : Nat} {t tn e : TypeId} {k kn : IntKind} {xs : List Value} {u : Value} (hx : ev L x = some (.slice A n c)) (hy : ev L y = some (.int k (m : Int))) (hE : ym P t e bytes) (htn : P.underlying tn = some (.int kn)) (hown : Row w base e A n c xs)
  (hu : (P.info? e).map (·.zero) = some (some u)) (h1 : u.oneCell' = true) (hn : 0 < n) (h0 : 0 < m) (hlen : (n + m) * bytes ≤ 140737488355328) (Vw : n + m ≤ 140737488355328) (hbase : base ≤ w.heap.size) :
  Ef P L w (.call { callee := .builtin .append, args := #[x, y], argTypes := #[t, tn] }) ty (PI w base e A (n + m) c (xs ++ List.replicate m u)) := Ef.run fun ρ hρ => by
 obtain ⟨A', c', w', hrun, h2, h3, h4, h5⟩ := pk (P := P) (w := w) (ty := ty) (k := k) hE htn hown hu h1 hn h0 hlen Vw hbase
 exact ⟨_, w', ⟨A', c', rfl, h2, h3, h4, h5⟩, fun _ _ _ _ => by simp [execOp, resolve, invoke, builtin, hρ _ _ hx, hρ _ _ hy, hrun]⟩
end
end
section
open Go.RowKit Tryz
attribute [local irreducible] Y Ef WL WC WK WQ WM cE WN WF dc
theorem Lw (x : Nat) (k : Nat) (hk : k ≤ 64) : IntKind.u8.wrap (((x / 2 ^ k : Nat)) : Int) = ((UInt8.ofNat (x / 2 ^ k)).toNat : Int) := by
 rw [UInt8.toNat_ofNat']
 show (((x / 2 ^ k : Nat) : Int) % 256) = _
 omega
theorem LC (x j : Nat) (h : j < 8) : UInt8.ofNat (x / 2 ^ (8 * (7 - j))) = (Lng.jO x).getD j 0 := by
 have : j = 0 ∨ j = 1 ∨ j = 2 ∨ j = 3 ∨ j = 4 ∨ j = 5 ∨ j = 6 ∨ j = 7 := by omega
 rcases this with rfl | rfl | rfl | rfl | rfl | rfl | rfl | rfl
 all_goals simp [Lng.jO]
theorem zo (x j : Nat) (h : j < 8) : (Lng.jO x).take j ++ [(Lng.jO x).getD j 0] = (Lng.jO x).take (j + 1) := by
 have : j = 0 ∨ j = 1 ∨ j = 2 ∨ j = 3 ∨ j = 4 ∨ j = 5 ∨ j = 6 ∨ j = 7 := by omega
 rcases this with rfl | rfl | rfl | rfl | rfl | rfl | rfl | rfl
 all_goals rfl
theorem Cj (A : Oa) (n c : Nat) (xs : Lb) (w : World) (HA : Bs w A n xs) (hn : n ≤ 1000000) :
  Ct 257 #[.slice A n c] w fun e w' => ∃ A' c', e = .returned (.slice A' (n + (17 + Lng.bY n)) c') ∧ Row w' w.heap.size 5 A' (n + (17 + Lng.bY n)) c' ((xs ++ Lng.pad n).map bv) ∧ Ext w w' := by
 have hxl := HA.1
 have hzl : Lng.bY n < 128 := Nat.mod_lt _ Om
 have hz : Lng.bY n = (239 - n % 128) % 128 := rfl
 refine ai 34 func257 rfl rfl rfl rfl ?_
 intro _ hret
 refine aU ?_
 refine aB func181 rfl (jd A n c xs _ HA Om) ?_
 rintro e w1 ⟨A1, c1, rfl, O1, ex⟩
 refine aU ?_
 have E1 := ex; have R1 : Row w1 w.heap.size 5 A1 n c1 (xs.map bv) := O1
 refine ag (aK (z := .int .u8 0) Tn.u Kr rfl rfl rfl rfl rfl) rfl ?_
 rintro _ _ ⟨_, rfl, B2, _, ex⟩
 have E2 := E1.ext ex; have R2 := R1.ext ex
 refine ag (bd rfl rfl cB R2 (At.gX (vs := [(128 : UInt8)].map bv) (B2.congr rfl)) rfl aM Om Om E2.size) rfl ?_
 rintro _ _ ⟨A3, c3, rfl, R3, be, gr, hl⟩
 have E3 := E2.trans be; replace R3 := R3.cat
 refine aU ?_
 refine az (fun n' L wr => ∃ (k c4 : Nat) (A4 : Oa), L = [(0, .slice A n c), (3, .slice A4 (n + 1 + k) c4)] ∧ n' = Lng.bY n - k ∧ (k ≤ Lng.bY n ∧ Ext w wr ∧ Row wr w.heap.size 5 A4 (n + 1 + k) c4 ((xs ++ 128 :: List.replicate k 0).map bv))) _ _ ⟨0, c3, A3, rfl, rfl, by omega, E3, R3⟩ Ls ?_
 rintro _ n' L wr ⟨k, c4, A4, rfl, rfl, _, E, R⟩ Vx
 refine au 5 ?_
 refine ak (cK rfl rfl Om (show (((n + 1 + k : Nat) : Int).tmod 128) = (((n + 1 + k) % 128 : Nat) : Int) from rfl)) ?_
 refine aU ?_
 refine al rfl (fun Vy => ?_) (fun Vy => ?_)
 ·have hkz : k < Lng.bY n := by omega
  refine aU ?_
  refine ag (aK (z := .int .u8 0) Tn.u Kr rfl rfl rfl rfl rfl) rfl ?_
  rintro _ _ ⟨_, rfl, B5, _, ex⟩
  have E5 := E.ext ex; have R5 := R.ext ex
  refine ag (bd rfl rfl cB R5 (At.gX (vs := [(0 : UInt8)].map bv) (B5.congr rfl)) rfl aM Om Om E5.size) rfl ?_
  rintro _ _ ⟨A6, c6, rfl, R6, be, gr, hl⟩
  have E6 := E5.trans be; replace R6 := R6.cat
  refine au 3 ?_
  refine ae ?_
  refine Vx _ _ ⟨k + 1, c6, A6, rfl, rfl, by omega, E6, (by rw [List.append_assoc, List.cons_append, ← List.replicate_succ'] at R6; exact R6)⟩ Om Ls
 ·obtain rfl : k = Lng.bY n := by omega
  refine aU ?_
  refine ag (KG (m := 8) rfl rfl cB (kn := .i64) Kr R (u := .int .u8 0) Kr rfl Om Om Om Om E.size) rfl ?_
  rintro _ _ ⟨A7, c7, rfl, R7, be, gr, hl⟩
  have E7 := E.trans be; have e7 : List.replicate 8 (Value.int .u8 0) = (List.replicate 8 (0 : UInt8)).map bv := rfl
  rw [e7] at R7
  replace R7 := R7.cat
  refine aU ?_
  refine az (fun n' L wr => ∃ (j c8 : Nat) (A8 : Oa), L = [(0, .slice A n c), (3, .slice A8 (n + 1 + Lng.bY n + 8 + j) c8), (4, .int .i64 (7 - (j : Int)))] ∧ n' = 8 - j ∧ (j ≤ 8 ∧ Ext w wr ∧ Row wr w.heap.size 5 A8 (n + 1 + Lng.bY n + 8 + j) c8 ((xs ++ 128 :: List.replicate (Lng.bY n) 0 ++ List.replicate 8 0 ++ (Lng.jO (n * 8)).take j).map bv))) _ _ ⟨0, c7, A7, rfl, rfl, by omega, E7, (by rw [List.take_zero, List.append_nil]; exact R7)⟩ Ls ?_
  rintro _ n' L wr ⟨j, c8, A8, rfl, rfl, _, E, R⟩ Vz
  refine aU ?_
  refine al rfl (fun VA => ?_) (fun VA => ?_)
  ·refine au 8 ?_
   refine ak (bg rfl Tn.u Tn.u (c := (n : Int)) (show IntKind.u64.wrap (n : Int) = (n : Int) from aF rfl Om)) ?_
   refine ak (cD rfl rfl (aF (n := n * 8) Om Om)) ?_
   refine au 1 ?_
   refine ak (cD rfl rfl (bj (n := 8 * (7 - j)) Om Om)) ?_
   refine ak (bZ rfl rfl Om (wT (n * 8) (8 * (7 - j)) Om)) ?_
   refine ak (bg rfl Tn.u Tn.u (Lw _ _ Om)) ?_
   refine ag (aK (z := .int .u8 0) Tn.u Kr rfl rfl rfl rfl rfl) rfl ?_
   rintro _ _ ⟨_, rfl, B9, _, ex⟩
   have E9 := E.ext ex; have R9 := R.ext ex
   refine ag (bd rfl rfl cB R9 (At.gX (vs := [UInt8.ofNat (n * 8 / 2 ^ (8 * (7 - j)))].map bv) (B9.congr rfl)) rfl aM Om Om E9.size) rfl ?_
   rintro _ _ ⟨VB, c10, rfl, Vw, be, gr, hl⟩
   have VC := E9.trans be; replace Vw := Vw.cat; rw [LC _ _ Om, List.append_assoc _ (List.take j _), zo _ _ Om] at Vw
   refine au 9 ?_
   refine ae ?_
   refine Vz _ _ ⟨j + 1, c10, VB, rfl, rfl, by omega, VC, Vw⟩ Om Ls
  ·refine aU ?_
   refine hret rfl ?_
   obtain rfl : j = 8 := by omega
   exact ⟨A8, c8, (by congr 2; omega), R.congr Om (by congr 1; rw [show (Lng.jO (n * 8)).take 8 = Lng.jO (n * 8) from rfl]; simp [Lng.pad]), E⟩
end
section
open Go.RowKit Tryz
attribute [local irreducible] Y Ef WL WC WK WQ WM cE WN WF dc
def jK (s : Lng.S8) (l : Lb) (js : List Nat) : Lng.S8 := js.foldl (fun s j => Lng.step s ((l.drop (128 * j)).take 128)) s
theorem uL (s : Lng.S8) (l : Lb) (k : Nat) : jK s l (List.range k) = Lng.blocks s l k := by
 induction k with
 | zero => rfl
 | succ k ih => unfold jK at *; rw [List.range_succ, List.foldl_append, ih]; rfl
theorem yK (s : Lng.S8) (l : Lb) (k : Nat) : jK s l ((List.finRange k).map (·.val)) = Lng.blocks s l k := by
 rw [← uL]; congr 1
 exact List.ext_getElem (by simp) (fun i h1 h2 => by simp)
theorem uM (s : Lng.S8) (l : Lb) (js : List Nat) (j : Nat) : jK s l (js ++ [j]) = Lng.step (jK s l js) ((l.drop (128 * j)).take 128) := by
 unfold jK; rw [List.foldl_append]; rfl
theorem tf (l : Lb) : ∀ (js : List Nat) {s : Lng.S8}, s.ok → (jK s l js).ok
 | [], _, h => h
 | j :: js, s, _ => tf l js (Lng.uH s ((l.drop (128 * j)).take 128))
theorem uZ (S : Lng.S8) (i : Nat) (h : i < 64) : UInt8.ofNat (S.list.getD (i / 8) 0 / 2 ^ (56 - i % 8 * 8)) = S.bytes.getD i 0 := by
 have e : 56 - i % 8 * 8 = 8 * (7 - i % 8) := by omega
 rw [e, LC _ _ (Nat.mod_lt _ Om)]
 obtain ⟨q, r, hq, hr, rfl⟩ : ∃ q r, q < 8 ∧ r < 8 ∧ i = 8 * q + r := ⟨i / 8, i % 8, by omega, by omega, by omega⟩
 rw [show (8 * q + r) / 8 = q from by omega, show (8 * q + r) % 8 = r from by omega]
 have Vw : q = 0 ∨ q = 1 ∨ q = 2 ∨ q = 3 ∨ q = 4 ∨ q = 5 ∨ q = 6 ∨ q = 7 := by omega
 have Vx : r = 0 ∨ r = 1 ∨ r = 2 ∨ r = 3 ∨ r = 4 ∨ r = 5 ∨ r = 6 ∨ r = 7 := by omega
 rcases Vw with rfl | rfl | rfl | rfl | rfl | rfl | rfl | rfl <;> rcases Vx with rfl | rfl | rfl | rfl | rfl | rfl | rfl | rfl <;> rfl
theorem JN (l : Lb) (k : Nat) (h : k < l.length) : (cT (l.take k ++ List.replicate (l.length - k) 0)).setIfInBounds (0 + k) (.int .u8 ((l.getD k 0).toNat : Int)) = cT (l.take (k + 1) ++ List.replicate (l.length - (k + 1)) 0) := by
 have e : (l.take k).length = k := by simp; omega
 rw [Nat.zero_add]
 unfold cT
 apply Array.ext'
 simp only [Array.toList_setIfInBounds]
 rw [show l.length - k = (l.length - (k + 1)) + 1 from by omega, List.replicate_succ, List.map_append, List.set_append_right _ _ So, List.map_cons, List.length_map, e, Nat.sub_self, List.set_cons_zero, List.take_succ_eq_append_getElem h, List.append_assoc, List.map_append, List.map_append, List.map_cons, List.map_nil]
 congr 1
 have : l.getD k 0 = l[k] := by simp [h]
 rw [this]
 rfl
theorem KL (A : Oa) (c : Nat) (xs : Lb) (s : Lng.S8) (k : Array Value) (w : World) (HA : Bs w A 128 xs) (hc : 128 ≤ c) (Vw : c ≤ 9223372036854775807) (hs : s.ok) (hk : k = aN .u64 Lng.K) :
  Ct 258 #[.agg (aN .u64 s.list), .agg k, .slice A 128 c] w fun e w' => e = .returned (.agg (aN .u64 (Lng.step s xs).list)) ∧ Ext w w' := by
 subst hk; exact BS A c xs s w HA hc Vw hs
theorem El (A : Oa) (n c : Nat) (xs : Lb) (w : World) (HA : Bs w A n xs) (hn : n ≤ 900000) :
  Ct 234 #[.slice A n c] w fun e w' => e = .returned (.agg (cT (Lng.sum xs))) ∧ Ext w w' := by
 have E := Ext.refl w
 have hxl := HA.1
 have hz : Lng.bY n < 128 := Nat.mod_lt _ Om
 obtain ⟨M, hM⟩ : ∃ M, n + (17 + Lng.bY n) = 128 * M := ⟨(n + (17 + Lng.bY n)) / 128, by have := Lng.jA n; rw [Lng.cQ] at this; omega⟩
 refine xf (s := 64) (3) 35 func234 rfl rfl rfl underlying275 rfl Kr rfl ?_
 intro _ hretD
 refine aU ?_
 intro w1 g2 (B2 : ao _ _ _ (cT (gD 64))) VA ex
 replace E := E.ext ex
 refine aU ?_
 refine aB func255 rfl (yU _) ?_
 rintro e _ ⟨rfl, ex⟩
 obtain ⟨E,B2⟩ := ba ex E B2
 refine aU ?_
 refine aB func256 rfl (yw _) ?_
 rintro e _ ⟨rfl, ex⟩
 obtain ⟨E,B2⟩ := ba ex E B2
 have VG := B2.lt
 refine aU ?_
 intro w4 g3 (B3 : ao _ _ _ (aN .u64 (ka 8))) VH ex
 obtain ⟨E,B2⟩ := ba ex E B2
 have VI := B3.lt
 refine aU ?_
 intro w5 g4 (B4 : ao _ _ _ (aN .u64 (ka 80))) VJ ex
 obtain ⟨E,B2,B3⟩ := bC ex E B2 B3
 refine ag (ah rfl rfl Kr B3 rfl (cO _ _)) rfl ?_
 rintro _ _ ⟨rfl, D3, cg⟩
 replace E := E.aE cg Om; replace B2 := B2.aE cg Om; replace B4 := B4.aE cg Om
 refine ag (ah rfl rfl Kr B4 Kr (cO _ _)) rfl ?_
 rintro _ _ ⟨rfl, D4, cg⟩
 replace E := E.aE cg Om; replace B2 := B2.aE cg Om; replace D3 := D3.aE cg Om; obtain ⟨KK, hKK⟩ : ∃ k, k = aN .u64 Lng.K := ⟨_, rfl⟩; have hKs : KK.size = 80 := by rw [hKK, bf]; rfl
 rw [← hKK] at D4 
 refine aU ?_
 have VK := D3.lt; have VL := D4.lt
 refine aB func257 rfl (Cj A n c xs _ (HA.wk E) Om) ?_
 rintro e _ ⟨_, c5, rfl, R5, ex⟩
 refine aU ?_
 obtain ⟨E,B2,D3,D4⟩ := bO ex E B2 D3 D4
 have HT := R5.bs; obtain ⟨g5, v5, rfl, _, _, VM, VN, _⟩ := R5.get (i := 0) Om; have hcap := R5.cap; rw [hM] at HT hcap ⊢; obtain ⟨T, hT⟩ : ∃ T, T = xs ++ Lng.pad n := ⟨_, rfl⟩; rw [← hT] at HT
 refine aB func176 rfl (Cm g5 0 c5 128 M _ Om) ?_
 rintro e w9 ⟨b1, b2, rfl, _, _, C1, C2, ex⟩
 obtain ⟨E,B2,D3,D4,HT⟩ := er ex E B2 D3 D4 HT
 have VO := C1.lt; have VP := C2.lt; have VQ := E.size
 refine aU ?_
 refine EO (n := 3) (S := fun xs => xs = List.finRange M) Om rfl (enters func228 rfl rfl) (xq 2 g5 0 c5 128 M b1 b2 _ Om hcap Om C1 C2) tB.trans (fun W l o o' hl ho _ _ => pJ W l o o' Om Om ho) (fun pre W => ao W g3 294 (aN .u64 (jK Lng.IV T (pre.map (·.val))).list) ∧ ao W g4 296 KK ∧ ao W g2 275 (cT (gD 64)) ∧ Bs W (some ⟨g5, 0, none⟩) (128 * M) T ∧ Below w.heap.size w W ∧ w9.heap.size ≤ W.heap.size) (OwnFrom.and eU (OwnFrom.and eU (OwnFrom.and eU (OwnFrom.and MK (OwnFrom.and (ownFrom_below (Nat.le_refl _) Om) nk))))) ⟨D3, D4, B2, HT, E, Nat.le_refl _⟩ rfl rfl rfl ?_ ?_
 ·intro _ pre v W2 ⟨I1, I2, I3, I4, I5, I6⟩ hl hout
  have hv := v.isLt
  obtain ⟨S0, Vw⟩ : ∃ s, s = jK Lng.IV T (pre.map (·.val)) := ⟨_, rfl⟩
  rw [← Vw] at I1
  have Vx : S0.ok := by rw [Vw]; exact tf T _ Lng.sB
  refine au 1 ?_
  refine ak (aY rfl Tn.u rfl (by rw [hKs]; kernel_rfl) I2) ?_
  refine aU ?_
  refine aB func258 rfl (KL (some ⟨g5, 0 + 128 * v.val, none⟩) 128 ((T.drop (128 * v.val)).take 128) S0 KK _ ((I4.uw (128 * v.val)).take Om) (Nat.le_refl _) Om Vx hKK) ?_
  rintro e _ ⟨rfl, ex⟩
  refine au 1 ?_
  have J1 := I1.ext ex
  refine ag (ah rfl rfl (by rw [bf, jC]; kernel_rfl) J1 (by rw [bf, bf, jC, jC]) (cO _ _)) rfl ?_
  rintro _ VB ⟨rfl, N3, cg⟩
  have hgr : W2.grownBy VB (some g3) := lA.tr (lA.EM ex g3) cg
  refine aU ?_
  exact hout (vo hgr Om) (Bm hgr Om Om Om Om) ⟨by rw [List.map_append, List.map_singleton, uM, ← Vw]; exact N3, I2.grown hgr (by intro h; injection h with h; omega), I3.grown hgr (by intro h; injection h with h; omega), I4.grown hgr (by intro b off e; injection e with e; injection e; omega), oJ I5 hgr Om I5.size, Nat.le_trans I6 hgr.size⟩
 ·intro D _ W2 _ VC ⟨I1, I2, I3, I4, I5, I6⟩ hKD
  obtain rfl := VC
  rw [yK] at I1
  have F := Ext.refl W2
  obtain ⟨S, hS⟩ : ∃ S, S = Lng.blocks Lng.IV T M := ⟨_, rfl⟩
  rw [← hS] at I1
  have hsum : Lng.sum xs = S.bytes := by unfold Lng.sum; rw [hxl, ← hT, hS, hT, List.length_append, Lng.cQ, hxl, hM, Nat.mul_div_cancel_left _ Om]
  have hSl := Lng.jL S
  refine aU ?_
  intro VR g6 (B6 : ao _ _ _ (cT (gD 64))) VD ex
  have F := ex
  refine aU ?_
  refine az (fun n' L wr => ∃ i : Nat, L = [(2, .pointer (some ⟨g2, 0, none⟩)), (3, .pointer (some ⟨g3, 0, none⟩)), (6, .pointer (some ⟨g6, 0, none⟩)), (18, .int .i64 (i : Int))] ∧ n' = 64 - i ∧ (i ≤ 64 ∧ Ext W2 wr ∧ ao wr g6 275 (cT (S.bytes.take i ++ List.replicate (S.bytes.length - i) 0)))) _ _ ⟨0, rfl, rfl, by omega, F, B6⟩ Ls ?_
  rintro _ n' L wr ⟨i, rfl, rfl, _, F, D6⟩ VE
  refine aU ?_
  refine al rfl (fun VF => ?_) (fun VF => ?_)
  ·refine au 13 ?_
   refine ak (dr rfl rfl Om (show IntKind.i64.wrap (((i : Nat) : Int).tdiv 8) = ((i / 8 : Nat) : Int) from bj rfl Om)) ?_
   refine au 1 ?_
   refine ak (af rfl Tn.u rfl ((I1.ext F).get (nA S.list (by rw [jC]; omega)))) ?_
   refine au 1 ?_
   refine ak (cK rfl rfl Om (show (((i : Nat) : Int).tmod 8) = ((i % 8 : Nat) : Int) from rfl)) ?_
   refine ak (cD rfl rfl (bj (n := i % 8 * 8) Om Om)) ?_
   refine ak (eS rfl rfl (bj (n := 56 - i % 8 * 8) Om Om)) ?_
   refine ak (bZ rfl rfl Om (wT _ _ Om)) ?_
   refine ak (bg rfl Tn.u Tn.u (show _ = ((S.bytes.getD i 0).toNat : Int) from by rw [Lw _ _ Om, uZ _ _ Om])) ?_
   refine au 1 ?_
   refine ag (av rfl rfl rfl Kr D6 (by rw [aW, List.length_append, List.length_take, List.length_replicate]; omega)) rfl ?_
   rintro _ _ ⟨rfl, D7, cg⟩
   have F7 := F.aE cg VD; rw [JN _ _ Om] at D7
   refine au 7 ?_
   refine ae ?_
   refine VE _ _ ⟨i + 1, rfl, rfl, by omega, F7, D7⟩ Om Ls
  ·obtain rfl : i = 64 := by omega
   have D8 : ao wr g6 275 (cT (Lng.sum xs)) := by rw [hsum]; rw [List.take_of_length_le Om, hSl, Nat.sub_self, List.replicate_zero, List.append_nil] at D6; exact D6
   have Vz := (show vl W2 D from hKD).ext F
   have E8 := I5.trans (F.mono I5.size)
   have C2 := I3.ext F
   have hDw : w.heap.size ≤ D := by omega
   refine au 8 ?_
   refine ag (ah rfl rfl (by rw [aW, Lng.bP]; kernel_rfl) C2 (by rw [aW, aW, Lng.bP]; rfl) (lx _)) rfl ?_
   rintro _ Vy ⟨rfl, C3, cg⟩
   have HD : vl Vy D := (cg.block D Vz.lt (by intro h; injection h with h; omega)).trans Vz; have E9 : Ext w (Vy.putObj D (.deferred none)) := (E8.aE cg VA).trans (belowK_b (w := w) (Nat.le_refl _) Vy D _ _ hDw HD rfl rfl)
   refine aU ?_
   refine hretD rfl HD C3 (by rw [aW, Lng.bP]) ?_
   exact ⟨rfl, E9⟩
theorem tR (A : Oa) (n c : Nat) (xss : List (List UInt8)) (w : World) (HA : pK w A n xss) (hn : n ≤ 1000000) (hl : xss.flatten.length ≤ 900000) :
  Ct 194 #[.slice A n c] w fun e w' => ∃ g, e = .returned (.slice (some ⟨g, 0, none⟩) 64 64) ∧ w.heap.size ≤ g ∧ ao w' g 275 (cT (Lng.sum xss.flatten)) ∧ Ext w w' := by
 have E := Ext.refl w
 refine ai 8 func194 rfl rfl rfl rfl ?_
 intro _ hret
 refine aU ?_
 refine aB func184 rfl (fR A n c xss _ HA Om Om) ?_
 rintro e _ ⟨A1, m1, c1, rfl, O1, ex⟩
 refine aU ?_
 replace E := E.ext ex
 have H1 := O1.bs; have Vx := H1.1
 refine aB func234 rfl (El A1 m1 c1 xss.flatten _ H1 Om) ?_
 rintro e w2 ⟨rfl, ex⟩
 replace E := E.ext ex
 have E0 := E; have hs := E.size; have F := Ext.refl w2
 refine aU ?_
 intro w3 g3 (B3 : ao _ _ _ (cT (gD 64))) Vw ex
 replace F := F.ext ex
 refine ag (ah rfl rfl (by rw [aW, Lng.bP]; kernel_rfl) B3 (by rw [aW, aW, Lng.bP]; rfl) (lx _)) rfl ?_
 rintro _ _ ⟨rfl, B4, cg⟩
 replace F := F.aE cg Vw; have E4 := E0.ext F
 refine au 4 ?_
 refine ak (vn (s := 1) rfl Tn.u Kr) ?_
 refine aU ?_
 refine hret rfl ?_
 exact ⟨g3, rfl, by omega, B4, E4⟩
theorem Ns.cellAt {w : World} {k : IntKind} {b off n i : Nat} {xs : List Nat} (h : Ns k w (some ⟨b, off, none⟩) n xs) (hi : i < n) : w.cell? ⟨b, off + i, none⟩ = some (.int k ((xs.getD i 0 : Nat) : Int)) := by
 obtain ⟨b', Vw, x, e, hx, hc⟩ := h.cell hi
 injection e with e
 injection e with e1 e2 _
 subst e1; subst e2
 rw [hc, hx.out]
end
end
section
section
namespace Wd
def val : List Nat → Nat
 | [] => 0
 | d :: ds => d + 18446744073709551616 * val ds
def ok (ds : List Nat) : Prop := ∀ d ∈ ds, d < 18446744073709551616
theorem ud {d : Nat} {ds : List Nat} : ok (d :: ds) ↔ d < 18446744073709551616 ∧ ok ds := by
 constructor
 ·intro h; exact ⟨h d (by simp), fun x hx => h x (by simp [hx])⟩
 ·rintro ⟨h1, h2⟩ x hx
  rcases List.mem_cons.1 hx with rfl | hx
  ·exact h1
  ·exact h2 x hx
theorem zh {a : List Nat} (ha : ok a) (i : Nat) : a.getD i 0 < 18446744073709551616 := by
 rw [List.getD_eq_getElem?_getD]
 cases h : a[i]? with
 | none => simp
 | some d => exact ha d (List.mem_of_getElem? h)
theorem BF (n i : Nat) : (List.replicate n 0).getD i 0 = 0 := by
 rw [List.getD_eq_getElem?_getD, List.getElem?_replicate]; split <;> rfl
theorem getD_set_ne (l : List Nat) (i j x : Nat) (h : i ≠ j) : (l.set i x).getD j 0 = l.getD j 0 := by
 rw [List.getD_eq_getElem?_getD, List.getD_eq_getElem?_getD, List.getElem?_set_ne h]
theorem mc : ∀ (a b : List Nat), val (a ++ b) = val a + 18446744073709551616 ^ a.length * val b
  | [], b => by simp [val]
  | d :: a, b => by
    simp only [List.cons_append, val, mc a b, List.length_cons, Nat.pow_succ]
    rw [Nat.mul_add, Nat.mul_comm (18446744073709551616 ^ a.length) 18446744073709551616, Nat.mul_assoc]
    omega
theorem lT (a : List Nat) (k : Nat) : val (a.take (k + 1)) = val (a.take k) + a.getD k 0 * 18446744073709551616 ^ k := by
 rw [List.getD_eq_getElem?_getD]
 by_cases h : k < a.length
 ·rw [List.take_succ_eq_append_getElem h, mc]
  have hl : (a.take k).length = k := by simp; omega
  rw [hl]
  simp [val, h, Nat.mul_comm]
 ·rw [List.take_of_length_le (by omega), List.take_of_length_le (by omega), List.getElem?_eq_none (by omega)]
  simp
theorem uo : ∀ (l : List Nat) (i x : Nat), i < l.length → val (l.set i x) + l.getD i 0 * 18446744073709551616 ^ i = val l + x * 18446744073709551616 ^ i
  | [], i, x, h => by cases h
  | d :: l, 0, x, _ => by simp [val]; omega
  | d :: l, i + 1, x, h => by
    have ih := uo l i x (by simpa using h)
    simp only [List.set_cons_succ, val, List.getD_cons_succ, Nat.pow_succ]
    have e1 : l.getD i 0 * (18446744073709551616 ^ i * 18446744073709551616) = 18446744073709551616 * (l.getD i 0 * 18446744073709551616 ^ i) := by rw [← Nat.mul_assoc, Nat.mul_comm]
    have e2 : x * (18446744073709551616 ^ i * 18446744073709551616) = 18446744073709551616 * (x * 18446744073709551616 ^ i) := by rw [← Nat.mul_assoc, Nat.mul_comm]
    rw [e1, e2]
    omega
theorem Fo {l : List Nat} (h : ok l) (i x : Nat) (hx : x < 18446744073709551616) : ok (l.set i x) := fun d hd => by
 rcases List.mem_or_eq_of_mem_set hd with h1 | h1
 ·exact h d h1
 ·omega
theorem Br (n : Nat) : val (List.replicate n 0) = 0 := by
 induction n with
 | zero => rfl
 | succ n ih => rw [List.replicate_succ, val, ih]
theorem Ib (n : Nat) : ok (List.replicate n 0) := fun d hd => by rw [List.eq_of_mem_replicate hd]; omega
theorem dm (D P : Nat) : D % 18446744073709551616 * P + D / 18446744073709551616 * (P * 18446744073709551616) = D * P := by
 rw [Nat.mul_comm P 18446744073709551616, ← Nat.mul_assoc, ← Nat.add_mul]
 congr 1
 omega
theorem EP {l l0 o x y cr D P V y' : Nat} (hD : D = o + x * y + cr) (h : l + cr * P = l0 + x * V) (h' : y' + o * P = l + D % 18446744073709551616 * P) : y' + D / 18446744073709551616 * (P * 18446744073709551616) = l0 + x * (V + y * P) := by
 have e := dm D P
 have e2 : D * P = o * P + x * y * P + cr * P := by rw [hD, Nat.add_mul, Nat.add_mul]
 rw [Nat.mul_add, ← Nat.mul_assoc x y P]
 omega
end Wd
end
section
namespace Lng
end Lng
end
end
section
section
open Go.RowKit
attribute [local irreducible] Y Ef WL WC WK WQ WM cE WN WF dc
theorem OO (x : Nat) : IntKind.u8.wrap ((x % 256 : Nat) : Int) = ((UInt8.ofNat x).toNat : Int) := by
 rw [UInt8.toNat_ofNat']
 show (((x % 256 : Nat) : Int) % 256) = _
 omega
theorem yf {α : Type} (l : List α) (d : α) (i : Nat) (h : i < l.length) : l.take i ++ [l.getD i d] = l.take (i + 1) := by
 rw [List.take_succ_eq_append_getElem h, List.getD_eq_getElem?_getD, List.getElem?_eq_getElem h]; rfl
end
section
open Go.RowKit
attribute [local irreducible] Y Ef WL WC WK WQ WM cE WN WF dc
theorem Bs.cellAt {w : World} {b off n k : Nat} {xs : Lb} (h : Bs w (some ⟨b, off, none⟩) n xs) (hk : k < n) : w.cell? ⟨b, off + k, none⟩ = some (.int .u8 ((xs.getD k 0).toNat : Int)) := by
 obtain ⟨b', Vw, e, _, hc⟩ := h.get hk
 injection e with e
 injection e with e1 e2 _
 subst e1; subst e2
 exact hc
theorem zR (p u : Nat) : p % 2 * u ≤ u := by
 rcases Nat.mod_two_eq_zero_or_one p with h | h <;> rw [h] <;> omega
theorem Ns.Hs {w w' : World} {k : IntKind} {A : Oa} {n g : Nat} {xs : List Nat} (h : Ns k w A n xs) (cg : w.grownBy w' (some g)) (hA : ∀ o, A ≠ some ⟨g, o, none⟩) : Ns k w' A n xs := h.grown cg (fun b o e e2 => hA o (e2 ▸ e))
theorem Nu {w : World} {base n c : Nat} {e : TypeId} {A : Oa} {xs : List Value} (h : Row w base e A n c xs) (b o : Nat) (hA : A = some ⟨b, o, none⟩) : base ≤ b := by subst hA; exact (Row.lt h).1
end
end
section
open Go.RowKit
theorem Cd (x : Nat) : Sha.cI x 0 = x := by simp [Sha.cI, Nat.mod_one]
theorem BV (x i : Nat) (hi : i < 32) : Sha.cI x (i + 1) = Sha.cI x i / 2 + Sha.cI x i % 2 * 2147483648 := by
 unfold Sha.cI
 obtain ⟨p, hp⟩ : ∃ p, p = 2 ^ i := ⟨_, rfl⟩
 obtain ⟨q, hq⟩ : ∃ q, q = 2 ^ (31 - i) := ⟨_, rfl⟩
 have hpq : p * q = 2147483648 := by rw [hp, hq, ← Nat.pow_add, show i + (31 - i) = 31 from by omega]
 have e1 : 2 ^ (i + 1) = 2 * p := by rw [Nat.pow_succ, hp]; omega
 have e2 : 2 ^ (32 - i) = 2 * q := by rw [show 32 - i = (31 - i) + 1 from by omega, Nat.pow_succ, hq]; omega
 have e3 : 2 ^ (32 - (i + 1)) = q := by rw [show 32 - (i + 1) = 31 - i from by omega, hq]
 rw [e1, e2, e3, ← hp]
 have h1 : x / (2 * p) = x / p / 2 := by rw [Nat.mul_comm, Nat.div_div_eq_div_mul]
 have h2 : x % (2 * p) = x % p + p * (x / p % 2) := by rw [Nat.mul_comm 2 p, Nat.mod_mul]
 rw [h1, h2, Nat.add_mul, Nat.mul_assoc, Nat.mul_comm (x / p % 2) q, ← Nat.mul_assoc, hpq]
 generalize x / p = a
 generalize x % p = b
 have h3 : b * (2 * q) = 2 * (b * q) := by rw [← Nat.mul_assoc, Nat.mul_comm b 2, Nat.mul_assoc]
 rw [h3]
 generalize b * q = t
 omega
end
section
namespace Sha
def wt (l : List UInt8) (t : Nat) : List Nat := ext (ix l (min t 16)) (t - 16)
theorem Ms {l : List UInt8} {t : Nat} (h : t < 16) : wt l (t + 1) = wt l t ++ [NG l t] := by
 unfold wt
 rw [show min (t + 1) 16 = t + 1 from by omega, show min t 16 = t from by omega, show t + 1 - 16 = 0 from by omega, show t - 16 = 0 from by omega]
 rfl
theorem ug {l : List UInt8} {t : Nat} (h : 16 ≤ t) : wt l (t + 1) = wt l t ++ [gQ (wt l t) (t - 16)] := by
 unfold wt
 rw [show min (t + 1) 16 = 16 from by omega, show min t 16 = 16 from by omega, show t + 1 - 16 = (t - 16) + 1 from by omega]
 rfl
theorem qD (l : List UInt8) : wt l 64 = words l := rfl
theorem Eo (l : List UInt8) (t : Nat) : ∀ x ∈ wt l t, x < 4294967296 := pZ _ (qL l _) _
def pre (l : List UInt8) (t : Nat) : Nat → Nat
 | 0 => 0
 | i + 1 => 256 * pre l t i + (l.getD (4 * t + i) 0).toNat
theorem tA (l : List UInt8) (t i : Nat) : pre l t i < 256 ^ i := by
  induction i with
  | zero => simp [pre]
  | succ i ih =>
    have := (l.getD (4 * t + i) 0).toNat_lt
    simp only [pre, Nat.pow_succ]
    omega
theorem Hz (l : List UInt8) (t : Nat) : pre l t 4 = NG l t := by
 simp only [pre, NG, Nat.add_zero]
 omega
theorem zy (M : List UInt8) (a i : Nat) (h : i < 64) : ((M.drop a).take 64).getD i 0 = M.getD (a + i) 0 := by
 simp [List.getD_eq_getElem?_getD, List.getElem?_take, List.getElem?_drop, h]
end Sha
end
section
namespace Sha
theorem eR (c k : Nat) : c % 2 ^ (k + 1) = c % 2 ^ k + c / 2 ^ k % 2 * 2 ^ k := by
 rw [Nat.pow_succ, Nat.mod_mul, Nat.mul_comm (2 ^ k)]
theorem Cp {e k : Nat} (he : e < 4294967296) (hk : k < 32) : (4294967295 - e).testBit k = !e.testBit k := by
 have h1 := Nat.testBit_two_pow_sub_succ (n := 32) he k
 rw [show (2 : Nat) ^ 32 - (e + 1) = 4294967295 - e from by omega] at h1
 simp [h1, hk]
theorem Gu {e f g k : Nat} (he : e < 4294967296) (hk : k < 32) : ch e f g / 2 ^ k % 2 = if e / 2 ^ k % 2 = 1 then f / 2 ^ k % 2 else g / 2 ^ k % 2 := by
 rw [← Nat.toNat_testBit, ← Nat.toNat_testBit, ← Nat.toNat_testBit, ← Nat.toNat_testBit]
 unfold ch
 rw [Nat.testBit_xor, Nat.testBit_and, Nat.testBit_and, Cp he hk]
 cases e.testBit k <;> cases f.testBit k <;> cases g.testBit k <;> rfl
theorem AO (a b c k : Nat) : Bw a b c / 2 ^ k % 2 = if 2 ≤ a / 2 ^ k % 2 + b / 2 ^ k % 2 + c / 2 ^ k % 2 then 1 else 0 := by
 rw [← Nat.toNat_testBit, ← Nat.toNat_testBit, ← Nat.toNat_testBit, ← Nat.toNat_testBit]
 unfold Bw
 rw [Nat.testBit_xor, Nat.testBit_xor, Nat.testBit_and, Nat.testBit_and, Nat.testBit_and]
 cases a.testBit k <;> cases b.testBit k <;> cases c.testBit k <;> rfl
theorem Ds {e f g k : Nat} (he : e < 4294967296) (hk : k < 32) (h : e / 2 ^ k % 2 = 1) : ch e f g % 2 ^ (k + 1) = ch e f g % 2 ^ k + f / 2 ^ k % 2 * 2 ^ k := by
 rw [eR, Gu he hk, if_pos h]
theorem Fz {e f g k : Nat} (he : e < 4294967296) (hk : k < 32) (h : ¬ e / 2 ^ k % 2 = 1) : ch e f g % 2 ^ (k + 1) = ch e f g % 2 ^ k + g / 2 ^ k % 2 * 2 ^ k := by
 rw [eR, Gu he hk, if_neg h]
theorem sZ {a b c k : Nat} (h : 2 ≤ a / 2 ^ k % 2 + b / 2 ^ k % 2 + c / 2 ^ k % 2) : Bw a b c % 2 ^ (k + 1) = Bw a b c % 2 ^ k + 2 ^ k := by
 rw [eR, AO, if_pos h, Nat.one_mul]
theorem r6 {a b c k : Nat} (h : ¬ 2 ≤ a / 2 ^ k % 2 + b / 2 ^ k % 2 + c / 2 ^ k % 2) : Bw a b c % 2 ^ (k + 1) = Bw a b c % 2 ^ k := by
 rw [eR, AO, if_neg h, Nat.zero_mul, Nat.add_zero]
end Sha
end
end Go.Proofs.YtgfafidlkldeaaaGreat
