/- The reference's digest, its bits and words: plain laws. No program in sight. -/
import Derived.Test.YtgfafidlkldeaaaGreatBigC
import Derived.Lib.AppendZeros
import Derived.Test.YtgfafidlkldeaaaGreatLongA
import Derived.Test.YtgfafidlkldeaaaGreatChunkA
import Derived.Test.YtgfafidlkldeaaaGreatAu
import Derived.Test.YtgfafidlkldeaaaGreatSl
import Derived.Test.YtgfafidlkldeaaaGreatRow
set_option linter.unusedVariables false
set_option linter.unusedSimpArgs false
set_option maxHeartbeats 4000000
set_option maxRecDepth 4000
namespace Go.Proofs.YtgfafidlkldeaaaGreat
section
section
open Go.RowKit Tryz
section
variable {P : Program} {w : World} {ty : TypeId}
theorem mW (t tn e : TypeId) (i : TypeInfo) (z : Value) (k kn : IntKind) (ht : P.underlying t = some (.slice e)) (htn : P.underlying tn = some (.int kn)) (hi : P.info? e = some i) (hz : i.zero = some z)
  (g sLen sCap m : Nat) (cur : Array Value) (hg : w.heap[g]? = some (.cells cur e (0, 0))) (hs : i.size = 1) (h0 : 0 < m) (Vn : (m : Int) ≤ 9223372036854775807) (Vo : m * i.bytes ≤ 281474976710656)
  (news : List Value) (hnews : (Builtin.zeroCells z.cells m).toList = news) (h1 : ∀ u ∈ news, u.oneCell' = true) (hroom : sLen + m ≤ sCap) (hfit : sLen + news.length ≤ cur.size) :
  (Builtin.append_ #[t, tn] ty #[.slice (some ⟨g, 0, none⟩) sLen sCap, .int k m]).run P w = .ok (.slice (some ⟨g, 0, none⟩) (sLen + m) sCap) (w.setRow g (cur.toList.take sLen ++ news ++ cur.toList.drop (sLen + news.length)).toArray) := by
 have hst := run_storeCells_at P g sLen e news 0 cur w hg (by simpa using hfit) h1
 simp only [Nat.add_zero] at hst
 have hw : IntKind.i64.wrap (m : Int) = m := by rw [IntKind.wrap_i64]; omega
 have hneg : ¬ ((m : Int) < 0) := by omega
 have Vm : m ≠ 0 := by omega
 have Vl : ¬ (281474976710656 < (m : Int) * (i.bytes : Int)) := by rw [← Int.natCast_mul]; omega
 simp [Builtin.append_, run_underlying ht, run_underlying htn, sizeOf, typeInfo, zeroValue, hi, hz, asInt, asIntOf, hw, hneg, Vm, hs, Vl, hroom, Addr.add_lit, hnews, hst]
theorem mX (t tn e : TypeId) (i : TypeInfo) (z : Value) (k kn : IntKind) (ht : P.underlying t = some (.slice e)) (htn : P.underlying tn = some (.int kn)) (hi : P.info? e = some i) (hz : i.zero = some z)
  (b : Addr) (sLen sCap m : Nat) (olds : List Value) (hlo : olds.length = sLen * i.size) (holds : ∀ j v, olds[j]? = some v → w.cell? (b.add j) = some v) (hs : i.size = 1) (h0 : 0 < m) (Vo : m * i.bytes ≤ 281474976710656)
  (news : List Value) (hnews : (Builtin.zeroCells z.cells m).toList = news)
  (hg : sCap < sLen + m) (Vr : ((sLen + m : Nat) : Int) ≤ 9223372036854775807) (hfit : Builtin.nextslicecap (sLen + m) sCap * i.bytes ≤ 281474976710656) :
  (Builtin.append_ #[t, tn] ty #[.slice (some b) sLen sCap, .int k m]).run P w = .ok (.slice (some ⟨w.heap.size, 0, none⟩) (sLen + m) (grownCap w (sLen + m) sCap e))
    (w.drew.alloc (.cells (olds.toArray ++ news.toArray ++ Builtin.zeroCells z.cells (grownCap w (sLen + m) sCap e - (sLen + m))) e)) := by
 have hn : ¬ (sLen + m ≤ sCap) := by omega
 have Vl : ¬ (9223372036854775807 < ((sLen : Int) + (m : Int))) := by omega
 have Vm : ¬ (281474976710656 < Builtin.nextslicecap (sLen + m) sCap * i.bytes) := by omega
 have hw : IntKind.i64.wrap (m : Int) = m := by rw [IntKind.wrap_i64]; omega
 have hneg : ¬ ((m : Int) < 0) := by omega
 have Vp : m ≠ 0 := by omega
 have Vn : ¬ (281474976710656 < (m : Int) * (i.bytes : Int)) := by rw [← Int.natCast_mul]; omega
 have hfo := run_firstCells_some (P := P) w.drew i.size sLen b sLen sCap olds hlo (by simpa using holds)
 rw [hs] at hfo
 have Vq : Builtin.zeroCells z.cells m = news.toArray := by rw [← hnews]
 simp [Builtin.append_, run_underlying ht, run_underlying htn, sizeOf, typeInfo, zeroValue, hi, hz, asInt, asIntOf, hw, hneg, Vp, hs, Vn, hn, Vl, Vm, Question.forced, hfo, newRow, grownCap, Vq]
 congr 2
 apply Array.ext'
 simp [List.append_assoc]
theorem nH {A : Oa} {n m c base bytes : Nat} {t tn e : TypeId} {k kn : IntKind} {xs : List Value} {u : Value} (hE : vm P t e bytes) (htn : P.underlying tn = some (.int kn)) (hown : Row w base e A n c xs)
  (hu : (P.info? e).map (·.zero) = some (some u)) (h1 : u.oneCell' = true) (hn : 0 < n) (h0 : 0 < m) (hlen : (n + m) * bytes ≤ 140737488355328) (Vn : n + m ≤ 140737488355328) (hbase : base ≤ w.heap.size) :
  ∃ A' c' w', (Builtin.append_ #[t, tn] ty #[.slice A n c, .int k m]).run P w = .ok (.slice A' (n + m) c') w' ∧ Row w' base e A' (n + m) c' (xs ++ List.replicate m u) ∧ Below base w w' ∧ w.grownBy w' (Value.slice A (n + m) c).ownBlock ∧ ((Value.slice A' (n + m) c').ownBlock = (Value.slice A (n + m) c).ownBlock ∨ (Value.slice A' (n + m) c').ownBlock = some w.heap.size) := by
 obtain ⟨ht, i, z, hi, hz, hs, hb, hzs⟩ := hE
 have hzu : z = u := by rw [hi] at hu; simp only [Option.map_some, Option.some.injEq] at hu; rw [hz] at hu; injection hu
 subst hzu
 have Vm : z.cells = #[z] := jX h1
 have hnews : (Builtin.zeroCells z.cells m).toList = List.replicate m z := by
  rw [Vm]
  simp only [Builtin.zeroCells, Array.size, List.length_singleton, Nat.mul_one, Array.toList_map, Array.toList_range]
  apply List.ext_getElem
  ·simp
  ·intro j h2 h3
   simp [Nat.mod_one]
 have hone : ∀ v ∈ List.replicate m z, v.oneCell' = true := fun v hv => by rw [List.eq_of_mem_replicate hv]; exact h1
 have hlx := hown.len
 rcases hown.2 with ⟨hv, Vo⟩ | ⟨g, cap, cur, hv, hbg, hg, hnc, hcm, hcs, htake⟩
 ·omega
 ·injection hv with h2 h3 h4
  subst h2; subst h4
  have hmb : m * bytes ≤ 140737488355328 := Nat.le_trans (Nat.mul_le_mul_right _ Om) hlen
  rw [Nat.mul_one] at hcs htake
  by_cases hroom : n + m ≤ c
  ·have hr := mW (P := P) (w := w) (ty := ty) t tn e i z k kn ht htn hi hz g n c m cur hg hs h0 Om (by rw [hb]; omega) _ hnews hone hroom (by rw [List.length_replicate]; omega)
   refine ⟨_, c, _, hr, ⟨by rw [List.length_append, List.length_replicate]; omega, .inr ⟨g, c, _, rfl, hbg, setRow_heap w g cur _ e _ hg, hroom, hcm, ?_, ?_⟩⟩, ?_, ?_, .inl rfl⟩
   ·simp only [List.size_toArray, List.length_append, List.length_take, List.length_drop, Array.length_toList, List.length_replicate]; omega
   ·rw [htake, Nat.mul_one, List.take_append_of_le_length (by rw [List.length_append, List.length_replicate]; omega), List.take_of_length_le (by rw [List.length_append, List.length_replicate]; omega)]
   ·exact ⟨rfl, rfl, rfl, by simp [World.setRow], fun j hj => setRow_other w g j _ Om⟩
   ·exact ⟨rfl, rfl, rfl, by simp, fun j _ hj => setRow_other w g j _ (fun e => hj (by simp [Value.ownBlock, e]))⟩
  ·have holds : ∀ j v, xs[j]? = some v → w.cell? ((⟨g, 0, none⟩ : Addr).add j) = some v := World.ownsRow.cells hown rfl
   have hr := mX (P := P) (w := w) (ty := ty) t tn e i z k kn ht htn hi hz ⟨g, 0, none⟩ n c m xs (by rw [hs]; omega) holds hs h0 (by rw [hb]; omega) _ hnews Om Om (growslice_fits Om (by rw [hb]; omega))
   have hge := grownCap_ge w (n + m) c e
   have Vl : grownCap w (n + m) c e ≤ maxLen := grownCap_le_maxLen w (n + m) c e (by unfold maxLen; omega)
   refine ⟨_, _, _, hr, ⟨by rw [List.length_append, List.length_replicate]; omega, .inr ⟨w.heap.size, _, _, rfl, hbase, heap_alloc_new w.drew _, hge, Vl, ?_, ?_⟩⟩, ?_, ?_, .inr rfl⟩
   ·simp only [Array.size_append, List.size_toArray, size_zeroCells, hzs, List.length_replicate, hlx]; omega
   ·simp only [Array.toList_append, List.append_assoc]
    rw [← List.append_assoc, List.take_append_of_le_length (by rw [List.length_append, List.length_replicate]; omega), List.take_of_length_le (by rw [List.length_append, List.length_replicate]; omega)]
   ·exact (Below.refl _ _).drew.alloc hbase _
   ·exact ⟨rfl, rfl, rfl, by simp, fun j hj _ => ((Below.refl w.heap.size w).drew.alloc (Nat.le_refl _) _).block j hj⟩
theorem Fa {L : List (Nat × Value)} {x y : Operand} {A : Oa} {n m c base bytes : Nat} {t tn e : TypeId} {k kn : IntKind} {xs : List Value} {u : Value} (hx : ev L x = some (.slice A n c)) (hy : ev L y = some (.int k (m : Int))) (hE : vm P t e bytes) (htn : P.underlying tn = some (.int kn)) (hown : Row w base e A n c xs)
  (hu : (P.info? e).map (·.zero) = some (some u)) (h1 : u.oneCell' = true) (hn : 0 < n) (h0 : 0 < m) (hlen : (n + m) * bytes ≤ 140737488355328) (Vl : n + m ≤ 140737488355328) (hbase : base ≤ w.heap.size) :
  Ef P L w (.call { callee := .builtin .append, args := #[x, y], argTypes := #[t, tn] }) ty (ND w base e A (n + m) c (xs ++ List.replicate m u)) := Ef.run fun ρ hρ => by
 obtain ⟨A', c', w', hrun, h2, h3, h4, h5⟩ := nH (P := P) (w := w) (ty := ty) (k := k) hE htn hown hu h1 hn h0 hlen Vl hbase
 exact ⟨_, w', ⟨A', c', rfl, h2, h3, h4, h5⟩, fun _ _ _ _ => by simp [execOp, resolve, invoke, builtin, hρ _ _ hx, hρ _ _ hy, hrun]⟩
end
end
section
open Go.RowKit Tryz
attribute [local irreducible] Y Ef WL WC WK WQ WM cx WN WF cT
theorem Ih (x : Nat) (k : Nat) (hk : k ≤ 64) : IntKind.u8.wrap (((x / 2 ^ k : Nat)) : Int) = ((UInt8.ofNat (x / 2 ^ k)).toNat : Int) := by
 rw [UInt8.toNat_ofNat']
 show (((x / 2 ^ k : Nat) : Int) % 256) = _
 omega
theorem Hp (x j : Nat) (h : j < 8) : UInt8.ofNat (x / 2 ^ (8 * (7 - j))) = (Lng.iR x).getD j 0 := by
 have : j = 0 ∨ j = 1 ∨ j = 2 ∨ j = 3 ∨ j = 4 ∨ j = 5 ∨ j = 6 ∨ j = 7 := by omega
 rcases this with rfl | rfl | rfl | rfl | rfl | rfl | rfl | rfl
 all_goals simp [Lng.iR]
theorem wA (x j : Nat) (h : j < 8) : (Lng.iR x).take j ++ [(Lng.iR x).getD j 0] = (Lng.iR x).take (j + 1) := by
 have : j = 0 ∨ j = 1 ∨ j = 2 ∨ j = 3 ∨ j = 4 ∨ j = 5 ∨ j = 6 ∨ j = 7 := by omega
 rcases this with rfl | rfl | rfl | rfl | rfl | rfl | rfl | rfl
 all_goals rfl
theorem zH (A : Oa) (n c : Nat) (xs : Lb) (w : World) (HA : Bs w A n xs) (hn : n ≤ 1000000) :
  Ct 257 #[.slice A n c] w fun e w' => ∃ A' c', e = .returned (.slice A' (n + (17 + Lng.bS n)) c') ∧ Row w' w.heap.size 5 A' (n + (17 + Lng.bS n)) c' ((xs ++ Lng.pad n).map bv) ∧ Ext w w' := by
 have hxl := HA.1
 have hzl : Lng.bS n < 128 := Nat.mod_lt _ Om
 have hz : Lng.bS n = (239 - n % 128) % 128 := rfl
 refine aj 34 func257 rfl rfl rfl rfl ?_
 intro _ hret
 refine aU ?_
 refine aL func181 rfl (iD A n c xs _ HA Om) ?_
 rintro e w1 ⟨A1, c1, rfl, O1, ex⟩
 refine aU ?_
 have E1 := ex; have R1 : Row w1 w.heap.size 5 A1 n c1 (xs.map bv) := O1
 refine af (aB (z := .int .u8 0) Tn.u Kr rfl rfl rfl rfl rfl) rfl ?_
 rintro _ _ ⟨_, rfl, B2, _, ex⟩
 have E2 := E1.ext ex; have R2 := R1.ext ex
 refine af (aQ rfl rfl bF R2 (At.fT (vs := [(128 : UInt8)].map bv) (B2.congr rfl)) rfl aH Om Om E2.size) rfl ?_
 rintro _ _ ⟨A3, c3, rfl, R3, be, gr, hl⟩
 have E3 := E2.trans be; replace R3 := R3.cat
 refine aU ?_
 refine aF (fun n' L wr => ∃ (k c4 : Nat) (A4 : Oa), L = [(0, .slice A n c), (3, .slice A4 (n + 1 + k) c4)] ∧ n' = Lng.bS n - k ∧ (k ≤ Lng.bS n ∧ Ext w wr ∧ Row wr w.heap.size 5 A4 (n + 1 + k) c4 ((xs ++ 128 :: List.replicate k 0).map bv))) _ _ ⟨0, c3, A3, rfl, rfl, by omega, E3, R3⟩ Ls ?_
 rintro _ n' L wr ⟨k, c4, A4, rfl, rfl, _, E, R⟩ Vm
 refine au 5 ?_
 refine ak (cy rfl rfl Om (show (((n + 1 + k : Nat) : Int).tmod 128) = (((n + 1 + k) % 128 : Nat) : Int) from rfl)) ?_
 refine aU ?_
 refine al rfl (fun Vn => ?_) (fun Vn => ?_)
 ·have hkz : k < Lng.bS n := by omega
  refine aU ?_
  refine af (aB (z := .int .u8 0) Tn.u Kr rfl rfl rfl rfl rfl) rfl ?_
  rintro _ _ ⟨_, rfl, B5, _, ex⟩
  have E5 := E.ext ex; have R5 := R.ext ex
  refine af (aQ rfl rfl bF R5 (At.fT (vs := [(0 : UInt8)].map bv) (B5.congr rfl)) rfl aH Om Om E5.size) rfl ?_
  rintro _ _ ⟨A6, c6, rfl, R6, be, gr, hl⟩
  have E6 := E5.trans be; replace R6 := R6.cat
  refine au 3 ?_
  refine ae ?_
  refine Vm _ _ ⟨k + 1, c6, A6, rfl, rfl, by omega, E6, (by rw [List.append_assoc, List.cons_append, ← List.replicate_succ'] at R6; exact R6)⟩ Om Ls
 ·obtain rfl : k = Lng.bS n := by omega
  refine aU ?_
  refine af (Fa (m := 8) rfl rfl bF (kn := .i64) Kr R (u := .int .u8 0) Kr rfl Om Om Om Om E.size) rfl ?_
  rintro _ _ ⟨A7, c7, rfl, R7, be, gr, hl⟩
  have E7 := E.trans be; have e7 : List.replicate 8 (Value.int .u8 0) = (List.replicate 8 (0 : UInt8)).map bv := rfl
  rw [e7] at R7
  replace R7 := R7.cat
  refine aU ?_
  refine aF (fun n' L wr => ∃ (j c8 : Nat) (A8 : Oa), L = [(0, .slice A n c), (3, .slice A8 (n + 1 + Lng.bS n + 8 + j) c8), (4, .int .i64 (7 - (j : Int)))] ∧ n' = 8 - j ∧ (j ≤ 8 ∧ Ext w wr ∧ Row wr w.heap.size 5 A8 (n + 1 + Lng.bS n + 8 + j) c8 ((xs ++ 128 :: List.replicate (Lng.bS n) 0 ++ List.replicate 8 0 ++ (Lng.iR (n * 8)).take j).map bv))) _ _ ⟨0, c7, A7, rfl, rfl, by omega, E7, (by rw [List.take_zero, List.append_nil]; exact R7)⟩ Ls ?_
  rintro _ n' L wr ⟨j, c8, A8, rfl, rfl, _, E, R⟩ Vo
  refine aU ?_
  refine al rfl (fun Vp => ?_) (fun Vp => ?_)
  ·refine au 8 ?_
   refine ak (bg rfl Tn.u Tn.u (c := (n : Int)) (show IntKind.u64.wrap (n : Int) = (n : Int) from aE rfl Om)) ?_
   refine ak (cz rfl rfl (aE (n := n * 8) Om Om)) ?_
   refine au 1 ?_
   refine ak (cz rfl rfl (bk (n := 8 * (7 - j)) Om Om)) ?_
   refine ak (bY rfl rfl Om (uo (n * 8) (8 * (7 - j)) Om)) ?_
   refine ak (bg rfl Tn.u Tn.u (Ih _ _ Om)) ?_
   refine af (aB (z := .int .u8 0) Tn.u Kr rfl rfl rfl rfl rfl) rfl ?_
   rintro _ _ ⟨_, rfl, B9, _, ex⟩
   have E9 := E.ext ex; have R9 := R.ext ex
   refine af (aQ rfl rfl bF R9 (At.fT (vs := [UInt8.ofNat (n * 8 / 2 ^ (8 * (7 - j)))].map bv) (B9.congr rfl)) rfl aH Om Om E9.size) rfl ?_
   rintro _ _ ⟨Vq, Vr, rfl, Vl, be, gr, hl⟩
   have Vs := E9.trans be; replace Vl := Vl.cat; rw [Hp _ _ Om, List.append_assoc _ (List.take j _), wA _ _ Om] at Vl
   refine au 9 ?_
   refine ae ?_
   refine Vo _ _ ⟨j + 1, Vr, Vq, rfl, rfl, by omega, Vs, Vl⟩ Om Ls
  ·refine aU ?_
   refine hret rfl ?_
   obtain rfl : j = 8 := by omega
   exact ⟨A8, c8, (by congr 2; omega), R.congr Om (by congr 1; rw [show (Lng.iR (n * 8)).take 8 = Lng.iR (n * 8) from rfl]; simp [Lng.pad]), E⟩
end
section
open Go.RowKit Tryz
attribute [local irreducible] Y Ef WL WC WK WQ WM cx WN WF cT
def iH (s : Lng.S8) (l : Lb) (js : List Nat) : Lng.S8 := js.foldl (fun s j => Lng.step s ((l.drop (128 * j)).take 128)) s
theorem sP (s : Lng.S8) (l : Lb) (k : Nat) : iH s l (List.range k) = Lng.blocks s l k := by
 induction k with
 | zero => rfl
 | succ k ih => unfold iH at *; rw [List.range_succ, List.foldl_append, ih]; rfl
theorem wM (s : Lng.S8) (l : Lb) (k : Nat) : iH s l ((List.finRange k).map (·.val)) = Lng.blocks s l k := by
 rw [← sP]; congr 1
 exact List.ext_getElem (by simp) (fun i h1 h2 => by simp)
theorem tR (s : Lng.S8) (l : Lb) (js : List Nat) (j : Nat) : iH s l (js ++ [j]) = Lng.step (iH s l js) ((l.drop (128 * j)).take 128) := by
 unfold iH; rw [List.foldl_append]; rfl
theorem qD (l : Lb) : ∀ (js : List Nat) {s : Lng.S8}, s.ok → (iH s l js).ok
 | [], _, h => h
 | j :: js, s, _ => qD l js (Lng.rR s ((l.drop (128 * j)).take 128))
theorem tF (S : Lng.S8) (i : Nat) (h : i < 64) : UInt8.ofNat (S.list.getD (i / 8) 0 / 2 ^ (56 - i % 8 * 8)) = S.bytes.getD i 0 := by
 have e : 56 - i % 8 * 8 = 8 * (7 - i % 8) := by omega
 rw [e, Hp _ _ (Nat.mod_lt _ Om)]
 obtain ⟨q, r, hq, hr, rfl⟩ : ∃ q r, q < 8 ∧ r < 8 ∧ i = 8 * q + r := ⟨i / 8, i % 8, by omega, by omega, by omega⟩
 rw [show (8 * q + r) / 8 = q from by omega, show (8 * q + r) % 8 = r from by omega]
 have Vl : q = 0 ∨ q = 1 ∨ q = 2 ∨ q = 3 ∨ q = 4 ∨ q = 5 ∨ q = 6 ∨ q = 7 := by omega
 have Vm : r = 0 ∨ r = 1 ∨ r = 2 ∨ r = 3 ∨ r = 4 ∨ r = 5 ∨ r = 6 ∨ r = 7 := by omega
 rcases Vl with rfl | rfl | rfl | rfl | rfl | rfl | rfl | rfl <;> rcases Vm with rfl | rfl | rfl | rfl | rfl | rfl | rfl | rfl <;> rfl
theorem EL (l : Lb) (k : Nat) (h : k < l.length) : (cJ (l.take k ++ List.replicate (l.length - k) 0)).setIfInBounds (0 + k) (.int .u8 ((l.getD k 0).toNat : Int)) = cJ (l.take (k + 1) ++ List.replicate (l.length - (k + 1)) 0) := by
 have e : (l.take k).length = k := by simp; omega
 rw [Nat.zero_add]
 unfold cJ
 apply Array.ext'
 simp only [Array.toList_setIfInBounds]
 rw [show l.length - k = (l.length - (k + 1)) + 1 from by omega, List.replicate_succ, List.map_append, List.set_append_right _ _ So, List.map_cons, List.length_map, e, Nat.sub_self, List.set_cons_zero, List.take_succ_eq_append_getElem h, List.append_assoc, List.map_append, List.map_append, List.map_cons, List.map_nil]
 congr 1
 have : l.getD k 0 = l[k] := by simp [h]
 rw [this]
 rfl
theorem Gt (A : Oa) (c : Nat) (xs : Lb) (s : Lng.S8) (k : Array Value) (w : World) (HA : Bs w A 128 xs) (hc : 128 ≤ c) (Vl : c ≤ 9223372036854775807) (hs : s.ok) (hk : k = aK .u64 Lng.K) :
  Ct 258 #[.agg (aK .u64 s.list), .agg k, .slice A 128 c] w fun e w' => e = .returned (.agg (aK .u64 (Lng.step s xs).list)) ∧ Ext w w' := by
 subst hk; exact zK A c xs s w HA hc Vl hs
theorem Eb (A : Oa) (n c : Nat) (xs : Lb) (w : World) (HA : Bs w A n xs) (hn : n ≤ 900000) :
  Ct 234 #[.slice A n c] w fun e w' => e = .returned (.agg (cJ (Lng.sum xs))) ∧ Ext w w' := by
 have E := Ext.refl w
 have hxl := HA.1
 have hz : Lng.bS n < 128 := Nat.mod_lt _ Om
 obtain ⟨M, hM⟩ : ∃ M, n + (17 + Lng.bS n) = 128 * M := ⟨(n + (17 + Lng.bS n)) / 128, by have := Lng.iP n; rw [Lng.cG] at this; omega⟩
 refine ux (s := 64) (3) 35 func234 rfl rfl rfl underlying275 rfl Kr rfl ?_
 intro _ hretD
 refine aU ?_
 intro w1 g2 (B2 : ao _ _ _ (cJ (fV 64))) Vp ex
 replace E := E.ext ex
 refine aU ?_
 refine aL func255 rfl (xq _) ?_
 rintro e _ ⟨rfl, ex⟩
 obtain ⟨E,B2⟩ := aY ex E B2
 refine aU ?_
 refine aL func256 rfl (vw _) ?_
 rintro e _ ⟨rfl, ex⟩
 obtain ⟨E,B2⟩ := aY ex E B2
 have Vv := B2.lt
 refine aU ?_
 intro w4 g3 (B3 : ao _ _ _ (aK .u64 (ji 8))) Vw ex
 obtain ⟨E,B2⟩ := aY ex E B2
 have Vx := B3.lt
 refine aU ?_
 intro w5 g4 (B4 : ao _ _ _ (aK .u64 (ji 80))) Vy ex
 obtain ⟨E,B2,B3⟩ := bC ex E B2 B3
 refine af (ag rfl rfl Kr B3 rfl (cF _ _)) rfl ?_
 rintro _ _ ⟨rfl, D3, cg⟩
 replace E := E.aw cg Om; replace B2 := B2.aw cg Om; replace B4 := B4.aw cg Om
 refine af (ag rfl rfl Kr B4 Kr (cF _ _)) rfl ?_
 rintro _ _ ⟨rfl, D4, cg⟩
 replace E := E.aw cg Om; replace B2 := B2.aw cg Om; replace D3 := D3.aw cg Om; obtain ⟨KK, hKK⟩ : ∃ k, k = aK .u64 Lng.K := ⟨_, rfl⟩; have hKs : KK.size = 80 := by rw [hKK, bc]; rfl
 rw [← hKK] at D4 
 refine aU ?_
 have Vz := D3.lt; have VA := D4.lt
 refine aL func257 rfl (zH A n c xs _ (HA.wk E) Om) ?_
 rintro e _ ⟨_, c5, rfl, R5, ex⟩
 refine aU ?_
 obtain ⟨E,B2,D3,D4⟩ := bU ex E B2 D3 D4
 have HT := R5.bs; obtain ⟨g5, v5, rfl, _, _, VB, VC, _⟩ := R5.get (i := 0) Om; have hcap := R5.cap; rw [hM] at HT hcap ⊢; obtain ⟨T, hT⟩ : ∃ T, T = xs ++ Lng.pad n := ⟨_, rfl⟩; rw [← hT] at HT
 refine aL func176 rfl (zI g5 0 c5 128 M _ Om) ?_
 rintro e w9 ⟨b1, b2, rfl, _, _, C1, C2, ex⟩
 obtain ⟨E,B2,D3,D4,HT⟩ := gQ ex E B2 D3 D4 HT
 have VD := C1.lt; have VE := C2.lt; have VF := E.size
 refine aU ?_
 refine AM (n := 3) (S := fun xs => xs = List.finRange M) Om rfl (enters func228 rfl rfl) (th 2 g5 0 c5 128 M b1 b2 _ Om hcap Om C1 C2) rO.trans (fun W l o o' hl ho _ _ => oo W l o o' Om Om ho) (fun pre W => ao W g3 294 (aK .u64 (iH Lng.IV T (pre.map (·.val))).list) ∧ ao W g4 296 KK ∧ ao W g2 275 (cJ (fV 64)) ∧ Bs W (some ⟨g5, 0, none⟩) (128 * M) T ∧ Below w.heap.size w W ∧ w9.heap.size ≤ W.heap.size) (OwnFrom.and cX (OwnFrom.and cX (OwnFrom.and cX (OwnFrom.and Bd (OwnFrom.and (ownFrom_below (Nat.le_refl _) Om) ly))))) ⟨D3, D4, B2, HT, E, Nat.le_refl _⟩ rfl rfl rfl ?_ ?_
 ·intro _ pre v W2 ⟨I1, I2, I3, I4, I5, I6⟩ hl hout
  have hv := v.isLt
  obtain ⟨S0, Vl⟩ : ∃ s, s = iH Lng.IV T (pre.map (·.val)) := ⟨_, rfl⟩
  rw [← Vl] at I1
  have Vm : S0.ok := by rw [Vl]; exact qD T _ Lng.rE
  refine au 1 ?_
  refine ak (aV rfl Tn.u rfl (by rw [hKs]; kernel_rfl) I2) ?_
  refine aU ?_
  refine aL func258 rfl (Gt (some ⟨g5, 0 + 128 * v.val, none⟩) 128 ((T.drop (128 * v.val)).take 128) S0 KK _ ((I4.wj (128 * v.val)).take Om) (Nat.le_refl _) Om Vm hKK) ?_
  rintro e _ ⟨rfl, ex⟩
  refine au 1 ?_
  have J1 := I1.ext ex
  refine af (ag rfl rfl (by rw [bc, iZ]; kernel_rfl) J1 (by rw [bc, bc, iZ, iZ]) (cF _ _)) rfl ?_
  rintro _ Vq ⟨rfl, N3, cg⟩
  have hgr : W2.grownBy Vq (some g3) := j7.tr (j7.Ax ex g3) cg
  refine aU ?_
  exact hout (tQ hgr Om) (yU hgr Om Om Om Om) ⟨by rw [List.map_append, List.map_singleton, tR, ← Vl]; exact N3, I2.grown hgr (by intro h; injection h with h; omega), I3.grown hgr (by intro h; injection h with h; omega), I4.grown hgr (by intro b off e; injection e with e; injection e; omega), nD I5 hgr Om I5.size, Nat.le_trans I6 hgr.size⟩
 ·intro D _ W2 _ Vr ⟨I1, I2, I3, I4, I5, I6⟩ hKD
  obtain rfl := Vr
  rw [wM] at I1
  have F := Ext.refl W2
  obtain ⟨S, hS⟩ : ∃ S, S = Lng.blocks Lng.IV T M := ⟨_, rfl⟩
  rw [← hS] at I1
  have hsum : Lng.sum xs = S.bytes := by unfold Lng.sum; rw [hxl, ← hT, hS, hT, List.length_append, Lng.cG, hxl, hM, Nat.mul_div_cancel_left _ Om]
  have hSl := Lng.jb S
  refine aU ?_
  intro VG g6 (B6 : ao _ _ _ (cJ (fV 64))) Vs ex
  have F := ex
  refine aU ?_
  refine aF (fun n' L wr => ∃ i : Nat, L = [(2, .pointer (some ⟨g2, 0, none⟩)), (3, .pointer (some ⟨g3, 0, none⟩)), (6, .pointer (some ⟨g6, 0, none⟩)), (18, .int .i64 (i : Int))] ∧ n' = 64 - i ∧ (i ≤ 64 ∧ Ext W2 wr ∧ ao wr g6 275 (cJ (S.bytes.take i ++ List.replicate (S.bytes.length - i) 0)))) _ _ ⟨0, rfl, rfl, by omega, F, B6⟩ Ls ?_
  rintro _ n' L wr ⟨i, rfl, rfl, _, F, D6⟩ Vt
  refine aU ?_
  refine al rfl (fun Vu => ?_) (fun Vu => ?_)
  ·refine au 13 ?_
   refine ak (cY rfl rfl Om (show IntKind.i64.wrap (((i : Nat) : Int).tdiv 8) = ((i / 8 : Nat) : Int) from bk rfl Om)) ?_
   refine au 1 ?_
   refine ak (ah rfl Tn.u rfl ((I1.ext F).get (lZ S.list (by rw [iZ]; omega)))) ?_
   refine au 1 ?_
   refine ak (cy rfl rfl Om (show (((i : Nat) : Int).tmod 8) = ((i % 8 : Nat) : Int) from rfl)) ?_
   refine ak (cz rfl rfl (bk (n := i % 8 * 8) Om Om)) ?_
   refine ak (eK rfl rfl (bk (n := 56 - i % 8 * 8) Om Om)) ?_
   refine ak (bY rfl rfl Om (uo _ _ Om)) ?_
   refine ak (bg rfl Tn.u Tn.u (show _ = ((S.bytes.getD i 0).toNat : Int) from by rw [Ih _ _ Om, tF _ _ Om])) ?_
   refine au 1 ?_
   refine af (az rfl rfl rfl Kr D6 (by rw [aW, List.length_append, List.length_take, List.length_replicate]; omega)) rfl ?_
   rintro _ _ ⟨rfl, D7, cg⟩
   have F7 := F.aw cg Vs; rw [EL _ _ Om] at D7
   refine au 7 ?_
   refine ae ?_
   refine Vt _ _ ⟨i + 1, rfl, rfl, by omega, F7, D7⟩ Om Ls
  ·obtain rfl : i = 64 := by omega
   have D8 : ao wr g6 275 (cJ (Lng.sum xs)) := by rw [hsum]; rw [List.take_of_length_le Om, hSl, Nat.sub_self, List.replicate_zero, List.append_nil] at D6; exact D6
   have Vo := (show ri W2 D from hKD).ext F
   have E8 := I5.trans (F.mono I5.size)
   have C2 := I3.ext F
   have hDw : w.heap.size ≤ D := by omega
   refine au 8 ?_
   refine af (ag rfl rfl (by rw [aW, Lng.bM]; kernel_rfl) C2 (by rw [aW, aW, Lng.bM]; rfl) (jT _)) rfl ?_
   rintro _ Vn ⟨rfl, C3, cg⟩
   have HD : ri Vn D := (cg.block D Vo.lt (by intro h; injection h with h; omega)).trans Vo; have E9 : Ext w (Vn.putObj D (.deferred none)) := (E8.aw cg Vp).trans (belowK_b (w := w) (Nat.le_refl _) Vn D _ _ hDw HD rfl rfl)
   refine aU ?_
   refine hretD rfl HD C3 (by rw [aW, Lng.bM]) ?_
   exact ⟨rfl, E9⟩
theorem sG (A : Oa) (n c : Nat) (xss : List (List UInt8)) (w : World) (HA : sN w A n xss) (hn : n ≤ 1000000) (hl : xss.flatten.length ≤ 900000) :
  Ct 194 #[.slice A n c] w fun e w' => ∃ g, e = .returned (.slice (some ⟨g, 0, none⟩) 64 64) ∧ w.heap.size ≤ g ∧ ao w' g 275 (cJ (Lng.sum xss.flatten)) ∧ Ext w w' := by
 have E := Ext.refl w
 refine aj 8 func194 rfl rfl rfl rfl ?_
 intro _ hret
 refine aU ?_
 refine aL func184 rfl (fp A n c xss _ HA Om Om) ?_
 rintro e _ ⟨A1, m1, c1, rfl, O1, ex⟩
 refine aU ?_
 replace E := E.ext ex
 have H1 := O1.bs; have Vm := H1.1
 refine aL func234 rfl (Eb A1 m1 c1 xss.flatten _ H1 Om) ?_
 rintro e w2 ⟨rfl, ex⟩
 replace E := E.ext ex
 have E0 := E; have hs := E.size; have F := Ext.refl w2
 refine aU ?_
 intro w3 g3 (B3 : ao _ _ _ (cJ (fV 64))) Vl ex
 replace F := F.ext ex
 refine af (ag rfl rfl (by rw [aW, Lng.bM]; kernel_rfl) B3 (by rw [aW, aW, Lng.bM]; rfl) (jT _)) rfl ?_
 rintro _ _ ⟨rfl, B4, cg⟩
 replace F := F.aw cg Vl; have E4 := E0.ext F
 refine au 4 ?_
 refine ak (uQ (s := 1) rfl Tn.u Kr) ?_
 refine aU ?_
 refine hret rfl ?_
 exact ⟨g3, rfl, by omega, B4, E4⟩
theorem Ns.cellAt {w : World} {k : IntKind} {b off n i : Nat} {xs : List Nat} (h : Ns k w (some ⟨b, off, none⟩) n xs) (hi : i < n) : w.cell? ⟨b, off + i, none⟩ = some (.int k ((xs.getD i 0 : Nat) : Int)) := by
 obtain ⟨b', Vl, x, e, hx, hc⟩ := h.cell hi
 injection e with e
 injection e with e1 e2 _
 subst e1; subst e2
 rw [hc, hx.out]
end
end
section
section
namespace Wd
def val : List Nat → Nat
 | [] => 0
 | d :: ds => d + 18446744073709551616 * val ds
def ok (ds : List Nat) : Prop := ∀ d ∈ ds, d < 18446744073709551616
theorem sr {d : Nat} {ds : List Nat} : ok (d :: ds) ↔ d < 18446744073709551616 ∧ ok ds := by
 constructor
 ·intro h; exact ⟨h d (by simp), fun x hx => h x (by simp [hx])⟩
 ·rintro ⟨h1, h2⟩ x hx
  rcases List.mem_cons.1 hx with rfl | hx
  ·exact h1
  ·exact h2 x hx
theorem vM {a : List Nat} (ha : ok a) (i : Nat) : a.getD i 0 < 18446744073709551616 := by
 rw [List.getD_eq_getElem?_getD]
 cases h : a[i]? with
 | none => simp
 | some d => exact ha d (List.mem_of_getElem? h)
theorem yG (n i : Nat) : (List.replicate n 0).getD i 0 = 0 := by
 rw [List.getD_eq_getElem?_getD, List.getElem?_replicate]; split <;> rfl
theorem getD_set_ne (l : List Nat) (i j x : Nat) (h : i ≠ j) : (l.set i x).getD j 0 = l.getD j 0 := by
 rw [List.getD_eq_getElem?_getD, List.getD_eq_getElem?_getD, List.getElem?_set_ne h]
theorem kG : ∀ (a b : List Nat), val (a ++ b) = val a + 18446744073709551616 ^ a.length * val b
  | [], b => by simp [val]
  | d :: a, b => by
    simp only [List.cons_append, val, kG a b, List.length_cons, Nat.pow_succ]
    rw [Nat.mul_add, Nat.mul_comm (18446744073709551616 ^ a.length) 18446744073709551616, Nat.mul_assoc]
    omega
theorem kx (a : List Nat) (k : Nat) : val (a.take (k + 1)) = val (a.take k) + a.getD k 0 * 18446744073709551616 ^ k := by
 rw [List.getD_eq_getElem?_getD]
 by_cases h : k < a.length
 ·rw [List.take_succ_eq_append_getElem h, kG]
  have hl : (a.take k).length = k := by simp; omega
  rw [hl]
  simp [val, h, Nat.mul_comm]
 ·rw [List.take_of_length_le (by omega), List.take_of_length_le (by omega), List.getElem?_eq_none (by omega)]
  simp
theorem sw : ∀ (l : List Nat) (i x : Nat), i < l.length → val (l.set i x) + l.getD i 0 * 18446744073709551616 ^ i = val l + x * 18446744073709551616 ^ i
  | [], i, x, h => by cases h
  | d :: l, 0, x, _ => by simp [val]; omega
  | d :: l, i + 1, x, h => by
    have ih := sw l i x (by simpa using h)
    simp only [List.set_cons_succ, val, List.getD_cons_succ, Nat.pow_succ]
    have e1 : l.getD i 0 * (18446744073709551616 ^ i * 18446744073709551616) = 18446744073709551616 * (l.getD i 0 * 18446744073709551616 ^ i) := by rw [← Nat.mul_assoc, Nat.mul_comm]
    have e2 : x * (18446744073709551616 ^ i * 18446744073709551616) = 18446744073709551616 * (x * 18446744073709551616 ^ i) := by rw [← Nat.mul_assoc, Nat.mul_comm]
    rw [e1, e2]
    omega
theorem BG {l : List Nat} (h : ok l) (i x : Nat) (hx : x < 18446744073709551616) : ok (l.set i x) := fun d hd => by
 rcases List.mem_or_eq_of_mem_set hd with h1 | h1
 ·exact h d h1
 ·omega
theorem yT (n : Nat) : val (List.replicate n 0) = 0 := by
 induction n with
 | zero => rfl
 | succ n ih => rw [List.replicate_succ, val, ih]
theorem Co (n : Nat) : ok (List.replicate n 0) := fun d hd => by rw [List.eq_of_mem_replicate hd]; omega
theorem dm (D P : Nat) : D % 18446744073709551616 * P + D / 18446744073709551616 * (P * 18446744073709551616) = D * P := by
 rw [Nat.mul_comm P 18446744073709551616, ← Nat.mul_assoc, ← Nat.add_mul]
 congr 1
 omega
theorem Bm {l l0 o x y cr D P V y' : Nat} (hD : D = o + x * y + cr) (h : l + cr * P = l0 + x * V) (h' : y' + o * P = l + D % 18446744073709551616 * P) : y' + D / 18446744073709551616 * (P * 18446744073709551616) = l0 + x * (V + y * P) := by
 have e := dm D P
 have e2 : D * P = o * P + x * y * P + cr * P := by rw [hD, Nat.add_mul, Nat.add_mul]
 rw [Nat.mul_add, ← Nat.mul_assoc x y P]
 omega
end Wd
end
section
namespace Lng
end Lng
end
end
section
section
open Go.RowKit
attribute [local irreducible] Y Ef WL WC WK WQ WM cx WN WF cT
theorem Mt (x : Nat) : IntKind.u8.wrap ((x % 256 : Nat) : Int) = ((UInt8.ofNat x).toNat : Int) := by
 rw [UInt8.toNat_ofNat']
 show (((x % 256 : Nat) : Int) % 256) = _
 omega
theorem vO {α : Type} (l : List α) (d : α) (i : Nat) (h : i < l.length) : l.take i ++ [l.getD i d] = l.take (i + 1) := by
 rw [List.take_succ_eq_append_getElem h, List.getD_eq_getElem?_getD, List.getElem?_eq_getElem h]; rfl
end
section
open Go.RowKit
attribute [local irreducible] Y Ef WL WC WK WQ WM cx WN WF cT
theorem Bs.cellAt {w : World} {b off n k : Nat} {xs : Lb} (h : Bs w (some ⟨b, off, none⟩) n xs) (hk : k < n) : w.cell? ⟨b, off + k, none⟩ = some (.int .u8 ((xs.getD k 0).toNat : Int)) := by
 obtain ⟨b', Vl, e, _, hc⟩ := h.get hk
 injection e with e
 injection e with e1 e2 _
 subst e1; subst e2
 exact hc
theorem xH (p u : Nat) : p % 2 * u ≤ u := by
 rcases Nat.mod_two_eq_zero_or_one p with h | h <;> rw [h] <;> omega
theorem Ns.Ay {w w' : World} {k : IntKind} {A : Oa} {n g : Nat} {xs : List Nat} (h : Ns k w A n xs) (cg : w.grownBy w' (some g)) (hA : ∀ o, A ≠ some ⟨g, o, none⟩) : Ns k w' A n xs := h.grown cg (fun b o e e2 => hA o (e2 ▸ e))
theorem I0 {w : World} {base n c : Nat} {e : TypeId} {A : Oa} {xs : List Value} (h : Row w base e A n c xs) (b o : Nat) (hA : A = some ⟨b, o, none⟩) : base ≤ b := by subst hA; exact (Row.lt h).1
end
end
section
open Go.RowKit
theorem zc (x : Nat) : Sha.cv x 0 = x := by simp [Sha.cv, Nat.mod_one]
theorem yN (x i : Nat) (hi : i < 32) : Sha.cv x (i + 1) = Sha.cv x i / 2 + Sha.cv x i % 2 * 2147483648 := by
 unfold Sha.cv
 obtain ⟨p, hp⟩ : ∃ p, p = 2 ^ i := ⟨_, rfl⟩
 obtain ⟨q, hq⟩ : ∃ q, q = 2 ^ (31 - i) := ⟨_, rfl⟩
 have hpq : p * q = 2147483648 := by rw [hp, hq, ← Nat.pow_add, show i + (31 - i) = 31 from by omega]
 have e1 : 2 ^ (i + 1) = 2 * p := by rw [Nat.pow_succ, hp]; omega
 have e2 : 2 ^ (32 - i) = 2 * q := by rw [show 32 - i = (31 - i) + 1 from by omega, Nat.pow_succ, hq]; omega
 have e3 : 2 ^ (32 - (i + 1)) = q := by rw [show 32 - (i + 1) = 31 - i from by omega, hq]
 rw [e1, e2, e3, ← hp]
 have h1 : x / (2 * p) = x / p / 2 := by rw [Nat.mul_comm, Nat.div_div_eq_div_mul]
 have h2 : x % (2 * p) = x % p + p * (x / p % 2) := by rw [Nat.mul_comm 2 p, Nat.mod_mul]
 rw [h1, h2, Nat.add_mul, Nat.mul_assoc, Nat.mul_comm (x / p % 2) q, ← Nat.mul_assoc, hpq]
 generalize x / p = a
 generalize x % p = b
 have h3 : b * (2 * q) = 2 * (b * q) := by rw [← Nat.mul_assoc, Nat.mul_comm b 2, Nat.mul_assoc]
 rw [h3]
 generalize b * q = t
 omega
end
section
namespace Sha
def wt (l : List UInt8) (t : Nat) : List Nat := ext (gU l (min t 16)) (t - 16)
theorem Lc {l : List UInt8} {t : Nat} (h : t < 16) : wt l (t + 1) = wt l t ++ [Lf l t] := by
 unfold wt
 rw [show min (t + 1) 16 = t + 1 from by omega, show min t 16 = t from by omega, show t + 1 - 16 = 0 from by omega, show t - 16 = 0 from by omega]
 rfl
theorem rV {l : List UInt8} {t : Nat} (h : 16 ≤ t) : wt l (t + 1) = wt l t ++ [gF (wt l t) (t - 16)] := by
 unfold wt
 rw [show min (t + 1) 16 = 16 from by omega, show min t 16 = 16 from by omega, show t + 1 - 16 = (t - 16) + 1 from by omega]
 rfl
theorem oF (l : List UInt8) : wt l 64 = words l := rfl
theorem Ce (l : List UInt8) (t : Nat) : ∀ x ∈ wt l t, x < 4294967296 := oU _ (pR l _) _
def pre (l : List UInt8) (t : Nat) : Nat → Nat
 | 0 => 0
 | i + 1 => 256 * pre l t i + (l.getD (4 * t + i) 0).toNat
theorem sI (l : List UInt8) (t i : Nat) : pre l t i < 256 ^ i := by
  induction i with
  | zero => simp [pre]
  | succ i ih =>
    have := (l.getD (4 * t + i) 0).toNat_lt
    simp only [pre, Nat.pow_succ]
    omega
theorem By (l : List UInt8) (t : Nat) : pre l t 4 = Lf l t := by
 simp only [pre, Lf, Nat.add_zero]
 omega
theorem wW (M : List UInt8) (a i : Nat) (h : i < 64) : ((M.drop a).take 64).getD i 0 = M.getD (a + i) 0 := by
 simp [List.getD_eq_getElem?_getD, List.getElem?_take, List.getElem?_drop, h]
end Sha
end
section
namespace Sha
theorem eo (c k : Nat) : c % 2 ^ (k + 1) = c % 2 ^ k + c / 2 ^ k % 2 * 2 ^ k := by
 rw [Nat.pow_succ, Nat.mod_mul, Nat.mul_comm (2 ^ k)]
theorem y9 {e k : Nat} (he : e < 4294967296) (hk : k < 32) : (4294967295 - e).testBit k = !e.testBit k := by
 have h1 := Nat.testBit_two_pow_sub_succ (n := 32) he k
 rw [show (2 : Nat) ^ 32 - (e + 1) = 4294967295 - e from by omega] at h1
 simp [h1, hk]
theorem Ch {e f g k : Nat} (he : e < 4294967296) (hk : k < 32) : ch e f g / 2 ^ k % 2 = if e / 2 ^ k % 2 = 1 then f / 2 ^ k % 2 else g / 2 ^ k % 2 := by
 rw [← Nat.toNat_testBit, ← Nat.toNat_testBit, ← Nat.toNat_testBit, ← Nat.toNat_testBit]
 unfold ch
 rw [Nat.testBit_xor, Nat.testBit_and, Nat.testBit_and, y9 he hk]
 cases e.testBit k <;> cases f.testBit k <;> cases g.testBit k <;> rfl
theorem yd (a b c k : Nat) : zP a b c / 2 ^ k % 2 = if 2 ≤ a / 2 ^ k % 2 + b / 2 ^ k % 2 + c / 2 ^ k % 2 then 1 else 0 := by
 rw [← Nat.toNat_testBit, ← Nat.toNat_testBit, ← Nat.toNat_testBit, ← Nat.toNat_testBit]
 unfold zP
 rw [Nat.testBit_xor, Nat.testBit_xor, Nat.testBit_and, Nat.testBit_and, Nat.testBit_and]
 cases a.testBit k <;> cases b.testBit k <;> cases c.testBit k <;> rfl
theorem Bt {e f g k : Nat} (he : e < 4294967296) (hk : k < 32) (h : e / 2 ^ k % 2 = 1) : ch e f g % 2 ^ (k + 1) = ch e f g % 2 ^ k + f / 2 ^ k % 2 * 2 ^ k := by
 rw [eo, Ch he hk, if_pos h]
theorem AQ {e f g k : Nat} (he : e < 4294967296) (hk : k < 32) (h : ¬ e / 2 ^ k % 2 = 1) : ch e f g % 2 ^ (k + 1) = ch e f g % 2 ^ k + g / 2 ^ k % 2 * 2 ^ k := by
 rw [eo, Ch he hk, if_neg h]
theorem qP {a b c k : Nat} (h : 2 ≤ a / 2 ^ k % 2 + b / 2 ^ k % 2 + c / 2 ^ k % 2) : zP a b c % 2 ^ (k + 1) = zP a b c % 2 ^ k + 2 ^ k := by
 rw [eo, yd, if_pos h, Nat.one_mul]
theorem rD {a b c k : Nat} (h : ¬ 2 ≤ a / 2 ^ k % 2 + b / 2 ^ k % 2 + c / 2 ^ k % 2) : zP a b c % 2 ^ (k + 1) = zP a b c % 2 ^ k := by
 rw [eo, yd, if_neg h, Nat.zero_mul, Nat.add_zero]
end Sha
end
end Go.Proofs.YtgfafidlkldeaaaGreat
