/- What a block does to the state: the code's step. No conditions but that the block has 64 bytes. -/
import Derived.Test.YtgfafidlkldeaaaGreatChunkA
import Derived.Lib.AppendZeros
import Derived.Test.YtgfafidlkldeaaaGreatAu
import Derived.Test.YtgfafidlkldeaaaGreatSl
import Derived.Test.YtgfafidlkldeaaaGreatVc
set_option linter.unusedVariables false
set_option linter.unusedSimpArgs false
set_option maxHeartbeats 4000000
set_option maxRecDepth 4000
namespace Go.Proofs.YtgfafidlkldeaaaGreat
open Go.RowKit Tryz
attribute [local irreducible] Ef WC WF WK WL WM WN WQ Y cu db
variable {k kn : IntKind} {l : List UInt8} {xs : List Value} {a b base c d f g g' m n off x : Nat} {A : Oa} {e t tn ty : TypeId} {u : Value} {w w' : aa9}
section
variable {P : Program}
theorem qJ (t tn e : TypeId) (i : TypeInfo) (z : Value) (k kn : IntKind) (ht : P.underlying t = some (.slice e)) (htn : P.underlying tn = some (.int kn)) (hi : P.info? e = some i) (hz : i.zero = some z)
  (g sLen sCap m : Nat) (cur : Array Value) (hg : w.heap[g]? = some (.cells cur e (0, 0))) (hs : i.size = 1) (h0 : 0 < m) (YW : (m : Int) ≤ 9223372036854775807) (YX : m * i.bytes ≤ 281474976710656)
  (news : List Value) (hnews : (Builtin.zeroCells z.cells m).toList = news) (h1 : ∀ u ∈ news, u.oneCell' = true) (hroom : sLen + m ≤ sCap) (hfit : sLen + news.length ≤ cur.size) :
  (Builtin.append_ #[t, tn] ty #[.slice (cf g) sLen sCap, .int k m]).run P w = .ok (.slice (cf g) (sLen + m) sCap) (w.setRow g (cur.toList.take sLen ++ news ++ cur.toList.drop (sLen + news.length)).toArray) := by
 have hst := run_storeCells_at P g sLen e news 0 cur w hg Om h1;simp only [Nat.add_zero] at hst;have hw : IntKind.i64.wrap (m : Int) = m := by rw [IntKind.wrap_i64]; omega
 have hneg : ¬ ((m : Int) < 0) := Om
 have YV : m ≠ 0 := Om
 have YU : ¬ (281474976710656 < (m : Int) * (i.bytes : Int)) := Om
 simp [Builtin.append_, run_underlying ht, run_underlying htn, sizeOf, typeInfo, zeroValue, hi, hz, asInt, asIntOf, hw, hneg, YV, hs, YU, hroom, Addr.add_lit, hnews, hst]
theorem qX (t tn e : TypeId) (i : TypeInfo) (z : Value) (k kn : IntKind) (ht : P.underlying t = some (.slice e)) (htn : P.underlying tn = some (.int kn)) (hi : P.info? e = some i) (hz : i.zero = some z)
  (b : Addr) (sLen sCap m : Nat) (olds : List Value) (hlo : olds.length = sLen * i.size) (holds : ∀ j v, olds[j]? = some v → w.cell? (b.add j) = some v) (hs : i.size = 1) (h0 : 0 < m) (YX : m * i.bytes ≤ 281474976710656)
  (news : List Value) (hnews : (Builtin.zeroCells z.cells m).toList = news)
  (hg : sCap < sLen + m) (Y0 : ((sLen + m : Nat) : Int) ≤ 9223372036854775807) (hfit : Builtin.nextslicecap (sLen + m) sCap * i.bytes ≤ 281474976710656) :
  (Builtin.append_ #[t, tn] ty #[.slice (some b) sLen sCap, .int k m]).run P w = .ok (.slice (some ⟨w.heap.size, 0, none⟩) (sLen + m) (grownCap w (sLen + m) sCap e))
    (w.drew.alloc (.cells (olds.toArray ++ news.toArray ++ Builtin.zeroCells z.cells (grownCap w (sLen + m) sCap e - (sLen + m))) e)) := by
 have hn : ¬ (sLen + m ≤ sCap) := Om
 have YU : ¬ (9223372036854775807 < ((sLen : Int) + (m : Int))) := Om
 have YV : ¬ (281474976710656 < Builtin.nextslicecap (sLen + m) sCap * i.bytes) := Om
 have hw : IntKind.i64.wrap (m : Int) = m := by rw [IntKind.wrap_i64]; omega
 have hneg : ¬ ((m : Int) < 0) := Om
 have YY : m ≠ 0 := Om
 have YW : ¬ (281474976710656 < (m : Int) * (i.bytes : Int)) := Om
 have hfo := run_firstCells_some (P := P) w.drew i.size sLen b sLen sCap olds hlo (by simpa using holds);rw [hs] at hfo;have YZ : Builtin.zeroCells z.cells m = news.toArray := by rw [← hnews]
 simp [Builtin.append_, run_underlying ht, run_underlying htn, sizeOf, typeInfo, zeroValue, hi, hz, asInt, asIntOf, hw, hneg, YY, hs, YW, hn, YU, YV, Question.forced, hfo, newRow, grownCap, YZ];grind
theorem sk {bytes : Nat} (hE : Cf P t e bytes) (htn : P.underlying tn = some (.int kn)) (aa5 : Row w base e A n c xs)
  (hu : (P.info? e).map (·.zero) = some (some u)) (h1 : u.oneCell' = true) (hn : 0 < n) (h0 : 0 < m) (hlen : (n + m) * bytes ≤ 140737488355328) (YW : n + m ≤ 140737488355328) (aa6 : base ≤ w.heap.size) :
  ∃ A' c' w', (Builtin.append_ #[t, tn] ty #[.slice A n c, .int k m]).run P w = .ok (.slice A' (n + m) c') w' ∧ Row w' base e A' (n + m) c' (xs ++ List.replicate m u) ∧ Below base w w' ∧ w.grownBy w' (Value.slice A (n + m) c).ownBlock ∧ ((Value.slice A' (n + m) c').ownBlock = (Value.slice A (n + m) c).ownBlock ∨ (Value.slice A' (n + m) c').ownBlock = some w.heap.size) := by
 obtain ⟨ht, i, z, hi, hz, hs, hb, hzs⟩ := hE;have hzu : z = u := by grind
 subst hzu;have YV : z.cells = #[z] := ns h1
 have hnews : (Builtin.zeroCells z.cells m).toList = List.replicate m z := by
  rw [YV];simp only [Builtin.zeroCells, Array.size, List.length_singleton, Nat.mul_one, Array.toList_map, Array.toList_range];apply List.ext_getElem
  ·simp
  grind
 have hone : ∀ v ∈ List.replicate m z, v.oneCell' = true := fun v hv => by grind
 have hlx := aa5.len
 rcases aa5.2 with ⟨hv, YX⟩ | ⟨g, cap, cur, hv, hbg, hg, hnc, hcm, hcs, htake⟩
 ·omega
 injection hv with h2 h3 h4
 subst h2; subst h4;have hmb : m * bytes ≤ 140737488355328 := Nat.le_trans (Nat.mul_le_mul_right _ Om) hlen;rw [Nat.mul_one] at hcs htake;by_cases hroom : n + m ≤ c
 ·have hr := qJ (P := P) (w := w) (ty := ty) t tn e i z k kn ht htn hi hz g n c m cur hg hs h0 Om (by rw [hb]; omega) _ hnews hone hroom (by grind);refine ⟨_, c, _, hr, ⟨by grind, .inr ⟨g, c, _, rfl, hbg, setRow_heap w g cur _ e _ hg, hroom, hcm, ?_, ?_⟩⟩, ?_, ?_, .inl rfl⟩
  ·grind
  ·rw [htake, Nat.mul_one, List.take_append_of_le_length (by rw [List.length_append, List.length_replicate]; omega), List.take_of_length_le (by rw [List.length_append, List.length_replicate]; omega)]
  ·exact ⟨rfl, rfl, rfl, by simp_all, fun j hj => setRow_other w g j _ Om⟩
  exact ⟨rfl, rfl, rfl, by simp, fun j _ hj => setRow_other w g j _ (fun e => hj (by simp [Value.ownBlock, e]))⟩
 have holds : ∀ j v, xs[j]? = some v → w.cell? ((⟨g, 0, none⟩ : Addr).add j) = some v := World.ownsRow.cells aa5 rfl;have hr := qX (P := P) (w := w) (ty := ty) t tn e i z k kn ht htn hi hz ⟨g, 0, none⟩ n c m xs (by rw [hs]; omega) holds hs h0 (by rw [hb]; omega) _ hnews Om Om (growslice_fits Om (by rw [hb]; omega));have hge := grownCap_ge w (n + m) c e;have YU : grownCap w (n + m) c e ≤ maxLen := grownCap_le_maxLen w (n + m) c e (by unfold maxLen; omega);refine ⟨_, _, _, hr, ⟨by grind, .inr ⟨w.heap.size, _, _, rfl, aa6, heap_alloc_new w.drew _, hge, YU, ?_, ?_⟩⟩, ?_, ?_, .inr rfl⟩
 ·simp only [Array.size_append, List.size_toArray, size_zeroCells, hzs, List.length_replicate, hlx]; omega
 ·grind
 ·exact (Below.refl _ _).drew.alloc aa6 _
 exact ⟨rfl, rfl, rfl, by simp, fun j hj _ => ((Below.refl w.heap.size w).drew.alloc (Nat.le_refl _) _).block j hj⟩
theorem Qz {L : List (Nat × Value)} {x y : Operand} {bytes : Nat} (hx : ev L x = some (.slice A n c)) (hy : ev L y = some (.int k (m : Int))) (hE : Cf P t e bytes) (htn : P.underlying tn = some (.int kn)) (aa5 : Row w base e A n c xs)
  (hu : (P.info? e).map (·.zero) = some (some u)) (h1 : u.oneCell' = true) (hn : 0 < n) (h0 : 0 < m) (hlen : (n + m) * bytes ≤ 140737488355328) (YU : n + m ≤ 140737488355328) (aa6 : base ≤ w.heap.size) :
  Ef P L w (.call { callee := .builtin .append, args := #[x, y], argTypes := #[t, tn] }) ty (XF w base e A (n + m) c (xs ++ List.replicate m u)) := Ef.run fun ρ hρ => by
 obtain ⟨A', c', w', aa8, h2, h3, h4, h5⟩ := sk (P := P) (w := w) (ty := ty) (k := k) hE htn aa5 hu h1 hn h0 hlen YU aa6;exact ⟨_, w', ⟨A', c', rfl, h2, h3, h4, h5⟩, fun _ _ _ _ => by simp [execOp, resolve, invoke, builtin, hρ _ _ hx, hρ _ _ hy, aa8]⟩
end
theorem QT (x : Nat) (k : Nat) (hk : k ≤ 64) : IntKind.u8.wrap (((x / 2 ^ k : Nat)) : Int) = ((UInt8.ofNat (x / 2 ^ k)).toNat : Int) := by rw [UInt8.toNat_ofNat'];show (((x / 2 ^ k : Nat) : Int) % 256) = _;omega
theorem RG (x j : Nat) (h : j < 8) : UInt8.ofNat (x / 2 ^ (8 * (7 - j))) = (Lng.lM x).getD j 0 := by
 have : j = 0 ∨ j = 1 ∨ j = 2 ∨ j = 3 ∨ j = 4 ∨ j = 5 ∨ j = 6 ∨ j = 7 := Om
 rcases this with rfl | rfl | rfl | rfl | rfl | rfl | rfl | rfl
 all_goals simp [Lng.lM]
theorem CD (x j : Nat) (h : j < 8) : (Lng.lM x).take j ++ [(Lng.lM x).getD j 0] = (Lng.lM x).take (j + 1) := by
 have : j = 0 ∨ j = 1 ∨ j = 2 ∨ j = 3 ∨ j = 4 ∨ j = 5 ∨ j = 6 ∨ j = 7 := Om
 rcases this with rfl | rfl | rfl | rfl | rfl | rfl | rfl | rfl
 all_goals rfl
theorem Jo (A : Oa) (n c : Nat) (xs : Lb) (w : aa9) (HA : Bs w A n xs) (hn : n ≤ 1000000) :
  Ct 257 #[.slice A n c] w fun e w' => ∃ A' c', e = .returned (.slice A' (n + (17 + Lng.cv n)) c') ∧ Row w' w.heap.size 5 A' (n + (17 + Lng.cv n)) c' ((xs ++ Lng.pad n).map bv) ∧ Ext w w' := by
 have hxl := HA.1;have hzl : Lng.cv n < 128 := Nat.mod_lt _ Om;have hz : Lng.cv n = (239 - n % 128) % 128 := rfl;refine ai 34 func257 ?_;intro _ aa4;refine aU ?_;refine aB func181 rfl (kF A n c xs _ HA Om) ?_;rintro e w1 ⟨A1, c1, rfl, O1, ex⟩;refine aU ?_;have E1 := ex; have R1 : Row w1 w.heap.size 5 A1 n c1 (xs.map bv) := O1;refine af (aF (z := .int .u8 0) Tn.u Kr rfl rfl rfl rfl rfl) rfl ?_;rintro _ _ ⟨_, rfl, B2, _, ex⟩;have E2 := E1.ext ex; have R2 := R1.ext ex;refine af (aT rfl rfl bV R2 (At.fA (vs := [(128 : UInt8)].map bv) (B2.congr rfl)) rfl aJ Om Om E2.size) rfl ?_;rintro _ _ ⟨A3, c3, rfl, R3, be, gr, hl⟩;have E3 := E2.trans be; replace R3 := R3.cat;refine aU ?_;refine aE (fun n' L wr => ∃ (k c4 : Nat) (A4 : Oa), L = [(0, .slice A n c), (3, .slice A4 (n + 1 + k) c4)] ∧ n' = Lng.cv n - k ∧ (k ≤ Lng.cv n ∧ Ext w wr ∧ Row wr w.heap.size 5 A4 (n + 1 + k) c4 ((xs ++ 128 :: List.replicate k 0).map bv))) _ _ ⟨0, c3, A3, rfl, rfl, Om, E3, R3⟩ Ls ?_;rintro _ n' L wr ⟨k, c4, A4, rfl, rfl, _, E, R⟩ YV;refine au 5 ?_;refine ak (cR rfl rfl Om (show (((n + 1 + k : Nat) : Int).tmod 128) = (((n + 1 + k) % 128 : Nat) : Int) from rfl)) ?_;refine aa1 (fun YW => ?_) (fun YW => ?_)
 ·have hkz : k < Lng.cv n := Om
  refine aU ?_;refine af (aF (z := .int .u8 0) Tn.u Kr rfl rfl rfl rfl rfl) rfl ?_;rintro _ _ ⟨_, rfl, B5, _, ex⟩;have E5 := E.ext ex; have R5 := R.ext ex;refine af (aT rfl rfl bV R5 (At.fA (vs := [(0 : UInt8)].map bv) (B5.congr rfl)) rfl aJ Om Om E5.size) rfl ?_;rintro _ _ ⟨A6, c6, rfl, R6, be, gr, hl⟩;have E6 := E5.trans be; replace R6 := R6.cat;refine au 3 ?_;refine ae ?_;refine YV _ _ ⟨k + 1, c6, A6, rfl, rfl, Om, E6, (by rw [List.append_assoc, List.cons_append, ← List.replicate_succ'] at R6; exact R6)⟩ Om Ls
 obtain rfl : k = Lng.cv n := Om
 refine aU ?_;refine af (Qz (m := 8) rfl rfl bV (kn := .i64) Kr R (u := .int .u8 0) Kr rfl Om Om Om Om E.size) rfl ?_;rintro _ _ ⟨A7, c7, rfl, R7, be, gr, hl⟩;have E7 := E.trans be; have e7 : List.replicate 8 (Value.int .u8 0) = (List.replicate 8 (0 : UInt8)).map bv := rfl;rw [e7] at R7;refine aU ?_;refine aE (fun n' L wr => ∃ (j c8 : Nat) (A8 : Oa), L = [(0, .slice A n c), (3, .slice A8 (n + 1 + Lng.cv n + 8 + j) c8), (4, .int .i64 (7 - (j : Int)))] ∧ n' = 8 - j ∧ (j ≤ 8 ∧ Ext w wr ∧ Row wr w.heap.size 5 A8 (n + 1 + Lng.cv n + 8 + j) c8 ((xs ++ 128 :: List.replicate (Lng.cv n) 0 ++ List.replicate 8 0 ++ (Lng.lM (n * 8)).take j).map bv))) _ _ ⟨0, c7, A7, rfl, rfl, Om, E7, (by grind)⟩ Ls ?_;rintro _ n' L wr ⟨j, c8, A8, rfl, rfl, _, E, R⟩ YX;refine aa1 (fun YY => ?_) (fun YY => ?_)
 ·refine au 8 ?_;refine ak (bc rfl Tn.u Tn.u (c := (n : Int)) (show IntKind.u64.wrap (n : Int) = (n : Int) from aG rfl Om)) ?_;refine ak (cS rfl rfl (aG (n := n * 8) Om Om)) ?_;refine au 1 ?_;refine ak (cS rfl rfl (bk (n := 8 * (7 - j)) Om Om)) ?_;refine ak (cn rfl rfl Om (Bw (n * 8) (8 * (7 - j)) Om)) ?_;refine ak (bc rfl Tn.u Tn.u (QT _ _ Om)) ?_;refine af (aF (z := .int .u8 0) Tn.u Kr rfl rfl rfl rfl rfl) rfl ?_;rintro _ _ ⟨_, rfl, B9, _, ex⟩;have E9 := E.ext ex; have R9 := R.ext ex;refine af (aT rfl rfl bV R9 (At.fA (vs := [UInt8.ofNat (n * 8 / 2 ^ (8 * (7 - j)))].map bv) (B9.congr rfl)) rfl aJ Om Om E9.size) rfl ?_;rintro _ _ ⟨YZ, c10, rfl, YU, be, gr, hl⟩;have Y0 := E9.trans be; replace YU := YU.cat; rw [RG _ _ Om, List.append_assoc _ (List.take j _), CD _ _ Om] at YU;refine au 9 ?_;refine ae ?_;refine YX _ _ ⟨j + 1, c10, YZ, rfl, rfl, Om, Y0, YU⟩ Om Ls
 refine aU ?_;refine aa4 rfl ?_;obtain rfl : j = 8 := Om
 exact ⟨A8, c8, (by congr 2; omega), R.congr Om (by congr 1; rw [show (Lng.lM (n * 8)).take 8 = Lng.lM (n * 8) from rfl]; simp [Lng.pad]), E⟩
def kW (s : Lng.S8) (l : Lb) (js : List Nat) : Lng.S8 := js.foldl (fun s j => Lng.step s ((l.drop (128 * j)).take 128)) s
theorem xt (s : Lng.S8) (l : Lb) (k : Nat) : kW s l (List.range k) = Lng.blocks s l k := by
 induction k with
 | zero => rfl
 | succ k ih => unfold kW at *; rw [List.range_succ, List.foldl_append, ih]; rfl
theorem DV (s : Lng.S8) (l : Lb) (k : Nat) : kW s l ((List.finRange k).map (·.val)) = Lng.blocks s l k := by rw [← xt]; congr 1;exact List.ext_getElem (by simp) (fun i h1 h2 => by simp)
theorem zw (s : Lng.S8) (l : Lb) (js : List Nat) (j : Nat) : kW s l (js ++ [j]) = Lng.step (kW s l js) ((l.drop (128 * j)).take 128) := by unfold kW; grind
theorem vn (l : Lb) : ∀ (js : List Nat) {s : Lng.S8}, s.ok → (kW s l js).ok
 | [], _, h => h
 | j :: js, s, _ => vn l js (Lng.sK s ((l.drop (128 * j)).take 128))
theorem zR (S : Lng.S8) (i : Nat) (h : i < 64) : UInt8.ofNat (S.list.getD (i / 8) 0 / 2 ^ (56 - i % 8 * 8)) = S.bytes.getD i 0 := by
 have e : 56 - i % 8 * 8 = 8 * (7 - i % 8) := Om
 rw [e, RG _ _ (Nat.mod_lt _ Om)]
 obtain ⟨q, r, hq, hr, rfl⟩ : ∃ q r, q < 8 ∧ r < 8 ∧ i = 8 * q + r := ⟨i / 8, i % 8, Om, Om, Om⟩
 rw [show (8 * q + r) / 8 = q from Om, show (8 * q + r) % 8 = r from Om];have YU : q = 0 ∨ q = 1 ∨ q = 2 ∨ q = 3 ∨ q = 4 ∨ q = 5 ∨ q = 6 ∨ q = 7 := Om
 have YV : r = 0 ∨ r = 1 ∨ r = 2 ∨ r = 3 ∨ r = 4 ∨ r = 5 ∨ r = 6 ∨ r = 7 := Om
 rcases YU with rfl | rfl | rfl | rfl | rfl | rfl | rfl | rfl <;> rcases YV with rfl | rfl | rfl | rfl | rfl | rfl | rfl | rfl <;> rfl
theorem PU (l : Lb) (k : Nat) (h : k < l.length) : (dc (l.take k ++ List.replicate (l.length - k) 0)).setIfInBounds (0 + k) (.int .u8 ((l.getD k 0).toNat : Int)) = dc (l.take (k + 1) ++ List.replicate (l.length - (k + 1)) 0) := by
 have e : (l.take k).length = k := by simp; omega
 rw [Nat.zero_add];unfold dc;apply Array.ext';simp only [Array.toList_setIfInBounds];rw [show l.length - k = (l.length - (k + 1)) + 1 from Om, List.replicate_succ, List.map_append, List.set_append_right _ _ So, List.map_cons, List.length_map, e, Nat.sub_self, List.set_cons_zero, List.take_succ_eq_append_getElem h, List.append_assoc, List.map_append, List.map_append, List.map_cons, List.map_nil];congr 1;have : l.getD k 0 = l[k] := by simp [h]
 rw [this];rfl
theorem PJ (A : Oa) (c : Nat) (xs : Lb) (s : Lng.S8) (k : Array Value) (w : aa9) (HA : Bs w A 128 xs) (hc : 128 ≤ c) (YU : c ≤ 9223372036854775807) (hs : s.ok) (hk : k = aM .u64 Lng.K) :
  Ct 258 #[.agg (aM .u64 s.list), .agg k, .slice A 128 c] w (ck w (.agg (aM .u64 (Lng.step s xs).list))) := by
 subst hk; exact GR A c xs s w HA hc YU hs
theorem Mt (A : Oa) (n c : Nat) (xs : Lb) (w : aa9) (HA : Bs w A n xs) (hn : n ≤ 900000) :
  Ct 234 #[.slice A n c] w (ck w (.agg (dc (Lng.sum xs)))) := by
 have E := Ext.refl w;have hxl := HA.1;have hz : Lng.cv n < 128 := Nat.mod_lt _ Om
 obtain ⟨M, hM⟩ : ∃ M, n + (17 + Lng.cv n) = 128 * M := ⟨(n + (17 + Lng.cv n)) / 128, by have := Lng.kU n; rw [Lng.cJ] at this; omega⟩
 refine za (s := 64) (3) 35 func234 rfl rfl rfl underlying275 rfl Kr rfl ?_;intro _ hretD;refine aU ?_;intro w1 g2 (B2 : aq _ _ _ (dc (iX 64))) YY ex;replace E := E.ext ex;refine aU ?_;refine aB func255 rfl (En _) ?_;rintro e _ ⟨rfl, ex⟩;obtain ⟨E,B2⟩ := aS ex E B2;refine aU ?_;refine aB func256 rfl (Eo _) ?_;rintro e _ ⟨rfl, ex⟩;obtain ⟨E,B2⟩ := aS ex E B2;have Zb := B2.lt;refine aU ?_;intro w4 g3 (B3 : aq _ _ _ (aM .u64 (me 8))) Zc ex;obtain ⟨E,B2⟩ := aS ex E B2;have Zd := B3.lt;refine aU ?_;intro w5 g4 (B4 : aq _ _ _ (aM .u64 (me 80))) Ze ex;obtain ⟨E,B2,B3⟩ := bh ex E B2 B3;refine af (ag rfl rfl Kr B3 rfl (cZ _ _)) rfl ?_;rintro _ _ ⟨rfl, D3, cg⟩;replace E := E.aw cg Om; replace B2 := B2.aw cg Om; replace B4 := B4.aw cg Om;refine af (ag rfl rfl Kr B4 Kr (cZ _ _)) rfl ?_;rintro _ _ ⟨rfl, D4, cg⟩;replace E := E.aw cg Om; replace B2 := B2.aw cg Om; replace D3 := D3.aw cg Om; obtain ⟨KK, hKK⟩ : ∃ k, k = aM .u64 Lng.K := ⟨_, rfl⟩; have hKs : KK.size = 80 := by rw [hKK, bf]; rfl
 rw [← hKK] at D4 ;refine aU ?_;have Zf := D3.lt; have Zg := D4.lt;refine aB func257 rfl (Jo A n c xs _ (HA.wk E) Om) ?_;rintro e _ ⟨_, c5, rfl, R5, ex⟩;refine aU ?_;obtain ⟨E,B2,D3,D4⟩ := bG ex E B2 D3 D4;have HT := R5.bs; obtain ⟨g5, v5, rfl, _, _, Zh, Zi, _⟩ := R5.get (i := 0) Om; have hcap := R5.cap; rw [hM] at HT hcap ⊢; obtain ⟨T, hT⟩ : ∃ T, T = xs ++ Lng.pad n := ⟨_, rfl⟩; rw [← hT] at HT;refine aB func176 rfl (IJ g5 0 c5 128 M _ Om) ?_;rintro e w9 ⟨b1, b2, rfl, _, _, C1, C2, ex⟩;obtain ⟨E,B2,D3,D4,HT⟩ := fR ex E B2 D3 D4 HT;have Zj := C1.lt; have Zk := C2.lt; have Zl := E.size;refine aU ?_;refine NO (n := 3) (S := fun xs => xs = List.finRange M) Om rfl (enters func228 rfl rfl) (AL 2 g5 0 c5 128 M b1 b2 _ Om hcap Om C1 C2) xn.trans (fun W l o o' hl ho _ _ => su W l o o' Om Om ho) (fun pre W => aq W g3 294 (aM .u64 (kW Lng.IV T (pre.map (·.val))).list) ∧ aq W g4 296 KK ∧ aq W g2 275 (dc (iX 64)) ∧ Bs W (cf g5) (128 * M) T ∧ Below w.heap.size w W ∧ w9.heap.size ≤ W.heap.size) (OwnFrom.and dH (OwnFrom.and dH (OwnFrom.and dH (OwnFrom.and MQ (OwnFrom.and (ownFrom_below (Nat.le_refl _) Om) pH))))) ⟨D3, D4, B2, HT, E, Nat.le_refl _⟩ rfl rfl rfl ?_ ?_
 ·intro _ pre v W2 ⟨I1, I2, I3, I4, I5, I6⟩ hl hout;have hv := v.isLt
  obtain ⟨S0, YU⟩ : ∃ s, s = kW Lng.IV T (pre.map (·.val)) := ⟨_, rfl⟩
  rw [← YU] at I1;have YV : S0.ok := by rw [YU]; exact vn T _ Lng.rD
  refine au 1 ?_;refine ak (aP rfl Tn.u rfl (by rw [hKs]; kernel_rfl) I2) ?_;refine aU ?_;refine aB func258 rfl (PJ (some ⟨g5, 0 + 128 * v.val, none⟩) 128 ((T.drop (128 * v.val)).take 128) S0 KK _ ((I4.xM (128 * v.val)).take Om) (Nat.le_refl _) Om YV hKK) ?_;rintro e _ ⟨rfl, ex⟩;refine au 1 ?_;have J1 := I1.ext ex;refine af (ag rfl rfl (by rw [bf, lA]; kernel_rfl) J1 (by rw [bf, bf, lA, lA]) (cZ _ _)) rfl ?_;rintro _ YZ ⟨rfl, N3, cg⟩;have hgr : W2.grownBy YZ (some g3) := mi.tr (mi.JR ex g3) cg;refine aU ?_;exact hout (yY hgr Om) (IC hgr Om Om Om Om) ⟨by rw [List.map_append, List.map_singleton, zw, ← YU]; exact N3, I2.grown hgr (by grind), I3.grown hgr (by grind), I4.grown hgr (by grind), rJ I5 hgr Om I5.size, Nat.le_trans I6 hgr.size⟩
 intro D _ W2 _ Y0 ⟨I1, I2, I3, I4, I5, I6⟩ hKD;obtain rfl := Y0;rw [DV] at I1;have F := Ext.refl W2
 obtain ⟨S, hS⟩ : ∃ S, S = Lng.blocks Lng.IV T M := ⟨_, rfl⟩
 rw [← hS] at I1;have hsum : Lng.sum xs = S.bytes := by unfold Lng.sum; rw [hxl, ← hT, hS, hT, List.length_append, Lng.cJ, hxl, hM, Nat.mul_div_cancel_left _ Om]
 have hSl := Lng.lN S;refine aU ?_;intro Zm g6 (B6 : aq _ _ _ (dc (iX 64))) Y2 ex;have F := ex;refine aU ?_;refine aE (fun n' L wr => ∃ i : Nat, L = [(2, .pointer (cf g2)), (3, .pointer (cf g3)), (6, .pointer (cf g6)), (18, .int .i64 (i : Int))] ∧ n' = 64 - i ∧ (i ≤ 64 ∧ Ext W2 wr ∧ aq wr g6 275 (dc (S.bytes.take i ++ List.replicate (S.bytes.length - i) 0)))) _ _ ⟨0, rfl, rfl, Om, F, B6⟩ Ls ?_;rintro _ n' L wr ⟨i, rfl, rfl, _, F, D6⟩ Y3;refine aa1 (fun Za => ?_) (fun Za => ?_)
 ·refine au 13 ?_;refine ak (dI rfl rfl Om (show IntKind.i64.wrap (((i : Nat) : Int).tdiv 8) = ((i / 8 : Nat) : Int) from bk rfl Om)) ?_;refine au 1 ?_;refine ak (ah rfl Tn.u rfl ((I1.ext F).get (qf S.list (by rw [lA]; omega)))) ?_;refine au 1 ?_;refine ak (cR rfl rfl Om (show (((i : Nat) : Int).tmod 8) = ((i % 8 : Nat) : Int) from rfl)) ?_;refine ak (cS rfl rfl (bk (n := i % 8 * 8) Om Om)) ?_;refine ak (fG rfl rfl (bk (n := 56 - i % 8 * 8) Om Om)) ?_;refine ak (cn rfl rfl Om (Bw _ _ Om)) ?_;refine ak (bc rfl Tn.u Tn.u (show _ = ((S.bytes.getD i 0).toNat : Int) from by rw [QT _ _ Om, zR _ _ Om])) ?_;refine au 1 ?_;refine af (az rfl rfl rfl Kr D6 (by rw [aV, List.length_append, List.length_take, List.length_replicate]; omega)) rfl ?_;rintro _ _ ⟨rfl, D7, cg⟩;have F7 := F.aw cg Y2; rw [PU _ _ Om] at D7;refine au 7 ?_;refine ae ?_;refine Y3 _ _ ⟨i + 1, rfl, rfl, Om, F7, D7⟩ Om Ls
 obtain rfl : i = 64 := Om
 have D8 : aq wr g6 275 (dc (Lng.sum xs)) := by rw [hsum]; rw [List.take_of_length_le Om, hSl, Nat.sub_self, List.replicate_zero, List.append_nil] at D6; exact D6
 have YX := (show vB W2 D from hKD).ext F;have E8 := I5.trans (F.mono I5.size);have C2 := I3.ext F;have hDw : w.heap.size ≤ D := Om
 refine au 8 ?_;refine af (ag rfl rfl (by rw [aV, Lng.bT]; kernel_rfl) C2 (by rw [aV, aV, Lng.bT]; rfl) (mY _)) rfl ?_;rintro _ YW ⟨rfl, C3, cg⟩;have HD : vB YW D := (cg.block D YX.lt (by grind)).trans YX; have E9 : Ext w (YW.putObj D (.deferred none)) := (E8.aw cg YY).trans (belowK_b (w := w) (Nat.le_refl _) YW D _ _ hDw HD rfl rfl);refine aU ?_;exact hretD rfl HD C3 (by rw [aV, Lng.bT]) ⟨rfl, E9⟩
theorem sw (A : Oa) (n c : Nat) (xss : List (List UInt8)) (w : aa9) (HA : sL w A n xss) (hn : n ≤ 1000000) (hl : xss.flatten.length ≤ 900000) :
  Ct 194 #[.slice A n c] w fun e w' => ∃ g, e = .returned (.slice (cf g) 64 64) ∧ w.heap.size ≤ g ∧ aq w' g 275 (dc (Lng.sum xss.flatten)) ∧ Ext w w' := by
 have E := Ext.refl w;refine ai 8 func194 ?_;intro _ aa4;refine aU ?_;refine aB func184 rfl (ir A n c xss _ HA Om Om) ?_;rintro e _ ⟨A1, m1, c1, rfl, O1, ex⟩;refine aU ?_;replace E := E.ext ex;have H1 := O1.bs; have YV := H1.1;refine aB func234 rfl (Mt A1 m1 c1 xss.flatten _ H1 Om) ?_;rintro e w2 ⟨rfl, ex⟩;replace E := E.ext ex;have E0 := E; have hs := E.size; have F := Ext.refl w2;refine aU ?_;intro w3 g3 (B3 : aq _ _ _ (dc (iX 64))) YU ex;replace F := F.ext ex;refine af (ag rfl rfl (by rw [aV, Lng.bT]; kernel_rfl) B3 (by rw [aV, aV, Lng.bT]; rfl) (mY _)) rfl ?_;rintro _ _ ⟨rfl, B4, cg⟩;replace F := F.aw cg YU; have E4 := E0.ext F;refine au 4 ?_;refine ak (yW (s := 1) rfl Tn.u Kr) ?_;refine aU ?_;exact aa4 rfl ⟨g3, rfl, Om, B4, E4⟩
theorem Ns.cellAt {i : Nat} {xs : List Nat} (h : Ns k w (some ⟨b, off, none⟩) n xs) (hi : i < n) : w.cell? ⟨b, off + i, none⟩ = some (.int k ((xs.getD i 0 : Nat) : Int)) := by
 obtain ⟨b', YU, x, e, hx, hc⟩ := h.cell hi;injection e with e
 injection e with e1 e2 _
 subst e1; subst e2;rw [hc, hx.out]
namespace Wd
def val : List Nat → Nat
 | [] => 0
 | d :: ds => d + 18446744073709551616 * val ds
def ok (ds : List Nat) : Prop := ∀ d ∈ ds, d < 18446744073709551616
theorem yf {ds : List Nat} : ok (d :: ds) ↔ d < 18446744073709551616 ∧ ok ds := by
 constructor
 ·intro h; exact ⟨h d (by simp), fun x hx => h x (by simp [hx])⟩
 rintro ⟨h1, h2⟩ x hx;rcases List.mem_cons.1 hx with rfl | hx
 ·exact h1
 exact h2 x hx
theorem Ch {a : List Nat} (ha : ok a) (i : Nat) : a.getD i 0 < 18446744073709551616 := by
 rw [List.getD_eq_getElem?_getD]
 cases h : a[i]? with
 | none => simp
 | some d => exact ha d (List.mem_of_getElem? h)
theorem JB (n i : Nat) : (List.replicate n 0).getD i 0 = 0 := by grind
theorem getD_set_ne (l : List Nat) (i j x : Nat) (h : i ≠ j) : (l.set i x).getD j 0 = l.getD j 0 := by rw [List.getD_eq_getElem?_getD, List.getD_eq_getElem?_getD, List.getElem?_set_ne h]
theorem oU : ∀ (a b : List Nat), val (a ++ b) = val a + 18446744073709551616 ^ a.length * val b
  | [], b => by simp [val]
  | d :: a, b => by simp only [List.cons_append, val, oU a b, List.length_cons, Nat.pow_succ];rw [Nat.mul_add, Nat.mul_comm (18446744073709551616 ^ a.length) 18446744073709551616, Nat.mul_assoc];omega
theorem nS (a : List Nat) (k : Nat) : val (a.take (k + 1)) = val (a.take k) + a.getD k 0 * 18446744073709551616 ^ k := by
 rw [List.getD_eq_getElem?_getD];by_cases h : k < a.length
 ·rw [List.take_succ_eq_append_getElem h, oU];have hl : (a.take k).length = k := by simp; omega
  rw [hl];simp [val, h, Nat.mul_comm]
 rw [List.take_of_length_le (Om), List.take_of_length_le (Om), List.getElem?_eq_none (Om)];simp
theorem xO : ∀ (l : List Nat) (i x : Nat), i < l.length → val (l.set i x) + l.getD i 0 * 18446744073709551616 ^ i = val l + x * 18446744073709551616 ^ i
  | [], i, x, h => by cases h
  | d :: l, 0, x, _ => by simp [val]; omega
  | d :: l, i + 1, x, h => by
    have ih := xO l i x (by simpa using h);simp only [List.set_cons_succ, val, List.getD_cons_succ, Nat.pow_succ];have e1 : l.getD i 0 * (18446744073709551616 ^ i * 18446744073709551616) = 18446744073709551616 * (l.getD i 0 * 18446744073709551616 ^ i) := by rw [← Nat.mul_assoc, Nat.mul_comm]
    have e2 : x * (18446744073709551616 ^ i * 18446744073709551616) = 18446744073709551616 * (x * 18446744073709551616 ^ i) := by rw [← Nat.mul_assoc, Nat.mul_comm]
    rw [e1, e2];omega
theorem JK {l : List Nat} (h : ok l) (i x : Nat) (hx : x < 18446744073709551616) : ok (l.set i x) := fun d hd => by
 rcases List.mem_or_eq_of_mem_set hd with h1 | h1
 ·exact h d h1
 omega
theorem ID (n : Nat) : val (List.replicate n 0) = 0 := by
 induction n with
 | zero => rfl
 | succ n ih => rw [List.replicate_succ, val, ih]
theorem ML (n : Nat) : ok (List.replicate n 0) := fun d hd => by grind
theorem dm (D P : Nat) : D % 18446744073709551616 * P + D / 18446744073709551616 * (P * 18446744073709551616) = D * P := by rw [Nat.mul_comm P 18446744073709551616, ← Nat.mul_assoc, ← Nat.add_mul];congr 1;omega
theorem LH {l l0 o y cr D P V y' : Nat} (hD : D = o + x * y + cr) (h : l + cr * P = l0 + x * V) (h' : y' + o * P = l + D % 18446744073709551616 * P) : y' + D / 18446744073709551616 * (P * 18446744073709551616) = l0 + x * (V + y * P) := by have e := dm D P;grind
end Wd
theorem VK (x : Nat) : IntKind.u8.wrap ((x % 256 : Nat) : Int) = ((UInt8.ofNat x).toNat : Int) := by rw [UInt8.toNat_ofNat'];show (((x % 256 : Nat) : Int) % 256) = _;omega
theorem DG {α : Type} (l : List α) (d : α) (i : Nat) (h : i < l.length) : l.take i ++ [l.getD i d] = l.take (i + 1) := by rw [List.take_succ_eq_append_getElem h, List.getD_eq_getElem?_getD, List.getElem?_eq_getElem h]; rfl
theorem Bs.cellAt {k : Nat} {xs : Lb} (h : Bs w (some ⟨b, off, none⟩) n xs) (hk : k < n) : w.cell? ⟨b, off + k, none⟩ = some (.int .u8 ((xs.getD k 0).toNat : Int)) := by
 obtain ⟨b', YU, e, _, hc⟩ := h.get hk;injection e with e
 injection e with e1 e2 _
 subst e1; subst e2;exact hc
theorem ES (p u : Nat) : p % 2 * u ≤ u := by rcases Nat.mod_two_eq_zero_or_one p with h | h <;> rw [h] <;> omega
theorem Ns.JL {xs : List Nat} (h : Ns k w A n xs) (cg : w.grownBy w' (some g)) (hA : ∀ o, A ≠ some ⟨g, o, none⟩) : Ns k w' A n xs := h.grown cg (fun b o e e2 => hA o (e2 ▸ e))
theorem Sl (h : Row w base e A n c xs) (b o : Nat) (hA : A = some ⟨b, o, none⟩) : base ≤ b := by subst hA; exact (Row.lt h).1
theorem Im (x : Nat) : Sha.cP x 0 = x := by simp [Sha.cP, Nat.mod_one]
theorem Jj (x i : Nat) (hi : i < 32) : Sha.cP x (i + 1) = Sha.cP x i / 2 + Sha.cP x i % 2 * 2147483648 := by
 unfold Sha.cP
 obtain ⟨p, hp⟩ : ∃ p, p = 2 ^ i := ⟨_, rfl⟩
 obtain ⟨q, hq⟩ : ∃ q, q = 2 ^ (31 - i) := ⟨_, rfl⟩
 have hpq : p * q = 2147483648 := by rw [hp, hq, ← Nat.pow_add, show i + (31 - i) = 31 from Om]
 have e1 : 2 ^ (i + 1) = 2 * p := by rw [Nat.pow_succ, hp]; omega
 have e2 : 2 ^ (32 - i) = 2 * q := by rw [show 32 - i = (31 - i) + 1 from Om, Nat.pow_succ, hq]; omega
 have e3 : 2 ^ (32 - (i + 1)) = q := by rw [show 32 - (i + 1) = 31 - i from Om, hq]
 rw [e1, e2, e3, ← hp];have h1 : x / (2 * p) = x / p / 2 := by rw [Nat.mul_comm, Nat.div_div_eq_div_mul]
 have h2 : x % (2 * p) = x % p + p * (x / p % 2) := by rw [Nat.mul_comm 2 p, Nat.mod_mul]
 rw [h1, h2, Nat.add_mul, Nat.mul_assoc, Nat.mul_comm (x / p % 2) q, ← Nat.mul_assoc, hpq];generalize x / p = a;generalize x % p = b;have h3 : b * (2 * q) = 2 * (b * q) := by rw [← Nat.mul_assoc, Nat.mul_comm b 2, Nat.mul_assoc]
 rw [h3];generalize b * q = t;omega
namespace Sha
def wt (l : List UInt8) (t : Nat) : List Nat := ext (gT l (min t 16)) (t - 16)
theorem TE {t : Nat} (h : t < 16) : wt l (t + 1) = wt l t ++ [LN l t] := by unfold wt;rw [show min (t + 1) 16 = t + 1 from Om, show min t 16 = t from Om, show t + 1 - 16 = 0 from Om, show t - 16 = 0 from Om];rfl
theorem wY {t : Nat} (h : 16 ≤ t) : wt l (t + 1) = wt l t ++ [gE (wt l t) (t - 16)] := by unfold wt;rw [show min (t + 1) 16 = 16 from Om, show min t 16 = 16 from Om, show t + 1 - 16 = (t - 16) + 1 from Om];rfl
theorem um (l : List UInt8) : wt l 64 = words l := rfl
theorem Mm (l : List UInt8) (t : Nat) : ∀ x ∈ wt l t, x < 4294967296 := oC _ (oX l _) _
def pre (l : List UInt8) (t : Nat) : Nat → Nat
 | 0 => 0
 | i + 1 => 256 * pre l t i + (l.getD (4 * t + i) 0).toNat
theorem xG (l : List UInt8) (t i : Nat) : pre l t i < 256 ^ i := by
  induction i with
  | zero => simp [pre]
  | succ i ih =>
    have := (l.getD (4 * t + i) 0).toNat_lt
    simp only [pre, Nat.pow_succ]
    omega
theorem NW (l : List UInt8) (t : Nat) : pre l t 4 = LN l t := by simp only [pre, LN, Nat.add_zero];omega
theorem Dw (M : List UInt8) (a i : Nat) (h : i < 64) : ((M.drop a).take 64).getD i 0 = M.getD (a + i) 0 := by simp [List.getD_eq_getElem?_getD, List.getElem?_take, List.getElem?_drop, h]
theorem fH (c k : Nat) : c % 2 ^ (k + 1) = c % 2 ^ k + c / 2 ^ k % 2 * 2 ^ k := by rw [Nat.pow_succ, Nat.mod_mul, Nat.mul_comm (2 ^ k)]
theorem II {e k : Nat} (he : e < 4294967296) (hk : k < 32) : (4294967295 - e).testBit k = !e.testBit k := by have h1 := Nat.testBit_two_pow_sub_succ (n := 32) he k;rw [show (2 : Nat) ^ 32 - (e + 1) = 4294967295 - e from Om] at h1;simp [h1, hk]
theorem MN {e k : Nat} (he : e < 4294967296) (hk : k < 32) : ch e f g / 2 ^ k % 2 = if e / 2 ^ k % 2 = 1 then f / 2 ^ k % 2 else g / 2 ^ k % 2 := by rw [← Nat.toNat_testBit, ← Nat.toNat_testBit, ← Nat.toNat_testBit, ← Nat.toNat_testBit];unfold ch;rw [Nat.testBit_xor, Nat.testBit_and, Nat.testBit_and, II he hk];cases e.testBit k <;> cases f.testBit k <;> cases g.testBit k <;> rfl
theorem Gn (a b c k : Nat) : yu a b c / 2 ^ k % 2 = if 2 ≤ a / 2 ^ k % 2 + b / 2 ^ k % 2 + c / 2 ^ k % 2 then 1 else 0 := by rw [← Nat.toNat_testBit, ← Nat.toNat_testBit, ← Nat.toNat_testBit, ← Nat.toNat_testBit];unfold yu;rw [Nat.testBit_xor, Nat.testBit_xor, Nat.testBit_and, Nat.testBit_and, Nat.testBit_and];cases a.testBit k <;> cases b.testBit k <;> cases c.testBit k <;> rfl
theorem MK {e k : Nat} (he : e < 4294967296) (hk : k < 32) (h : e / 2 ^ k % 2 = 1) : ch e f g % 2 ^ (k + 1) = ch e f g % 2 ^ k + f / 2 ^ k % 2 * 2 ^ k := by rw [fH, MN he hk, if_pos h]
theorem KR {e k : Nat} (he : e < 4294967296) (hk : k < 32) (h : ¬ e / 2 ^ k % 2 = 1) : ch e f g % 2 ^ (k + 1) = ch e f g % 2 ^ k + g / 2 ^ k % 2 * 2 ^ k := by rw [fH, MN he hk, if_neg h]
theorem vg {k : Nat} (h : 2 ≤ a / 2 ^ k % 2 + b / 2 ^ k % 2 + c / 2 ^ k % 2) : yu a b c % 2 ^ (k + 1) = yu a b c % 2 ^ k + 2 ^ k := by rw [fH, Gn, if_pos h, Nat.one_mul]
theorem wL {k : Nat} (h : ¬ 2 ≤ a / 2 ^ k % 2 + b / 2 ^ k % 2 + c / 2 ^ k % 2) : yu a b c % 2 ^ (k + 1) = yu a b c % 2 ^ k := by rw [fH, Gn, if_neg h, Nat.zero_mul, Nat.add_zero]
end Sha
theorem QW (l : List Nat) (vs : Array Value) (h : vs.toList = l.map (iv k)) (hn : l.length = n) : Ns k (w.alloc (.cells vs t)) (some ⟨w.heap.size, 0, none⟩) n l :=
 ⟨hn, .inr ⟨w.heap.size, 0, rfl, fun j u hu => by
  rw [Nat.zero_add, (aq.new w t vs).cell, ← Array.getElem?_toList, h]; exact hu⟩⟩
theorem eD (x n : Nat) (w : aa9) (hx : x < 4294967296) (hn : n ≤ 32) :
  Ct 187 #[.int .u64 (x : Int), .int .i64 (n : Int)] w (ck w (.int .u64 ((Sha.cP x n : Nat) : Int))) := by
 refine ai 18 func187 ?_;intro _ aa4;refine aU ?_;refine aE (fun n' L wr => ∃ (i y : Nat), L = [(0, .int .u64 (y : Int)), (1, .int .i64 (n : Int)), (5, .int .i64 (i : Int))] ∧ n' = n - i ∧ (i ≤ n ∧ wr = w ∧ y = Sha.cP x i)) _ _ ⟨0, x, rfl, rfl, Om, rfl, (Im x).symm⟩ Ls ?_;rintro _ n' L wr ⟨i, y, rfl, rfl, _, hw, hy⟩ YU;refine aa1 (fun YV => ?_) (fun YV => ?_)
 ·have hyl : y < 4294967296 := by rw [hy]; exact Sha.ba hx Om
  refine au 6 ?_;refine ak (dI rfl rfl Om (show IntKind.u64.wrap ((y : Int).tdiv 2) = ((y / 2 : Nat) : Int) from aG rfl Om)) ?_;refine au 1 ?_;refine ak (cR rfl rfl Om (show ((y : Int).tmod 2) = ((y % 2 : Nat) : Int) from rfl)) ?_;refine ak (cS rfl rfl (aG (n := y % 2 * 2147483648) Om Om)) ?_;refine ak (aO rfl rfl (aG (n := y / 2 + y % 2 * 2147483648) Om Om)) ?_;refine au 9 ?_;refine ae ?_;refine YU _ _ ⟨i + 1, y / 2 + y % 2 * 2147483648, rfl, rfl, Om, hw, (by rw [Jj x i Om, ← hy])⟩ Om Ls
 refine aU ?_;refine aa4 rfl ?_;obtain rfl : i = n := Om
 exact ⟨by rw [hy], hw ▸ Ext.refl _⟩
theorem tS (x n : Nat) (w : aa9) (hx : x < 4294967296) (hn : n ≤ 32) :
  Ct 188 #[.int .u64 (x : Int), .int .i64 (n : Int)] w (ck w (.int .u64 ((x / 2 ^ n : Nat) : Int))) := by
 refine ai 14 func188 ?_;intro _ aa4;refine aU ?_;refine aE (fun n' L wr => ∃ (i y : Nat), L = [(0, .int .u64 (y : Int)), (1, .int .i64 (n : Int)), (5, .int .i64 (i : Int))] ∧ n' = n - i ∧ (i ≤ n ∧ wr = w ∧ y = x / 2 ^ i)) _ _ ⟨0, x, rfl, rfl, Om, rfl, (by rw [Nat.pow_zero, Nat.div_one])⟩ Ls ?_;rintro _ n' L wr ⟨i, y, rfl, rfl, _, hw, hy⟩ YU;refine aa1 (fun YV => ?_) (fun YV => ?_)
 ·have hyl : y < 4294967296 := by rw [hy]; exact Nat.lt_of_le_of_lt (Nat.div_le_self _ _) hx
  refine au 6 ?_;refine ak (dI rfl rfl Om (show IntKind.u64.wrap ((y : Int).tdiv 2) = ((y / 2 : Nat) : Int) from aG rfl Om)) ?_;refine au 9 ?_;refine ae ?_;refine YU _ _ ⟨i + 1, y / 2, rfl, rfl, Om, hw, (by rw [hy, Nat.pow_succ, Nat.div_div_eq_div_mul])⟩ Om Ls
 refine aU ?_;refine aa4 rfl ?_;obtain rfl : i = n := Om
 exact ⟨by rw [hy], hw ▸ Ext.refl _⟩
theorem Uq (v i : Nat) (h : i < 8) : UInt8.ofNat (v / 256 ^ (7 - i)) = (Sha.lM v).getD i 0 := by
 have : i = 0 ∨ i = 1 ∨ i = 2 ∨ i = 3 ∨ i = 4 ∨ i = 5 ∨ i = 6 ∨ i = 7 := Om
 rcases this with rfl | rfl | rfl | rfl | rfl | rfl | rfl | rfl <;> simp [Sha.lM]
theorem Ap (M : Lb) (k t i : Nat) (ht : t < 16) (hi : i < 4) : M.getD (64 * k + 4 * t + i) 0 = ((M.drop (64 * k)).take 64).getD (4 * t + i) 0 := by rw [Sha.Dw _ _ _ Om, Nat.add_assoc]
theorem UW (S : Sha.S8) (i : Nat) (h : i < 8) : S.bytes.take (4 * i) ++ Sha.uV (S.list.getD i 0) = S.bytes.take (4 * (i + 1)) := by
 obtain ⟨a, b, c, d, e, f, g, h'⟩ := S;have : i = 0 ∨ i = 1 ∨ i = 2 ∨ i = 3 ∨ i = 4 ∨ i = 5 ∨ i = 6 ∨ i = 7 := Om
 rcases this with rfl | rfl | rfl | rfl | rfl | rfl | rfl | rfl <;> rfl
theorem Eg {s : Sha.S8} (h : s.ok) (i : Nat) : s.list.getD i 0 < 4294967296 := by obtain ⟨h1, h2, h3, h4, h5, h6, h7, h8⟩ := h;refine Sha.fJ (fun x hx => ?_) i;simp only [Sha.S8.list, List.mem_cons, List.not_mem_nil, or_false] at hx;rcases hx with rfl | rfl | rfl | rfl | rfl | rfl | rfl | rfl <;> assumption
theorem sv (s : Sha.S8) : s.list.length = 8 := rfl
theorem YP (x : Nat) : IntKind.u8.wrap (x : Int) = ((UInt8.ofNat x).toNat : Int) := by rw [UInt8.toNat_ofNat'];show ((x : Int) % 256) = _;omega
theorem FZ (ha : a < 4294967296) (hb : b < 4294967296) (hc : c < 4294967296) : (a ^^^ b) ^^^ c < 4294967296 := Sha.iV (Sha.iV ha hb) hc
theorem ER (a b c : Nat) (ha : a < 4294967296) (hb : b < 4294967296) (hc : c < 4294967296) : bits .xor .u64 (bits .xor .u64 (a : Int) (b : Int)) (c : Int) = (((a ^^^ b) ^^^ c : Nat) : Int) := vM _ _ _ Om Om Om
theorem YT {u : Nat} (h : x < 4294967296) : IntKind.u64.wrap ((x : Int).tdiv u) = ((x / u : Nat) : Int) := aG rfl (Nat.lt_of_le_of_lt (Nat.div_le_self _ _) (Nat.lt_trans h Om))
theorem YS (x : Nat) : ((x : Int).tmod 2) = ((x % 2 : Nat) : Int) := rfl
theorem MY (A A1 A2 : Oa) (n c c1 c2 : Nat) (xs : Lb) (w : aa9) (HA : Bs w A n xs) (hn : n ≤ 35184372088832) (HH : Ns .u64 w A1 8 Sha.H0) (Zr : Ns .u64 w A2 64 Sha.K) :
  Ct 121 #[.slice A n c, .slice A1 8 c1, .slice A2 64 c2] w fun e w' => ∃ A' c', e = .returned (.slice A' 32 c') ∧ Own w' w.heap.size A' 32 c' (Sha.sum xs) ∧ Ext w w' := by
 have hxl := HA.1;have hzl : Sha.cv n < 64 := Nat.mod_lt _ Om;have hz : Sha.cv n = (119 - n % 64) % 64 := rfl;obtain ⟨gK, oK, _, rfl, _, hgK, _⟩ := Zr.get (i := 0) Om;refine ai 352 func121 ?_;intro Q aa4;refine aU ?_;refine af (aF (z := .int .u64 0) Tn.u Kr rfl rfl rfl rfl rfl) rfl ?_;rintro _ w1 ⟨g1, rfl, B1, Zy, ex⟩;have E1 := ex; have R1 : Row w1 w.heap.size 38 (cf g1) 0 0 (([] : List Nat).map (iv .u64)) := Row.new B1 Zy rfl (by unfold maxLen; omega);refine aU ?_;refine af (iA rfl rfl Li R1 (HH.ext E1).2 (by rw [List.length_map]; rfl) oN Om Om E1.size) rfl ?_;rintro _ w2 ⟨_, ch, rfl, RH, be, gr, hl⟩;have E2 : Ext w w2 := E1.trans be;obtain ⟨gh, _, rfl, _, _, Zz, hghl, _⟩ := RH.get (i := 0) Om;refine aU ?_;refine af (aF (z := .int .u8 0) Tn.u Kr rfl rfl rfl rfl rfl) rfl ?_;rintro _ w3 ⟨g3, rfl, B3, ZA, ex⟩;have E3 := ex; have R3 : Row w3 w2.heap.size 5 (cf g3) 0 0 (([] : Lb).map bv) := Row.new B3 ZA rfl (by unfold maxLen; omega);refine aU ?_;refine af (iA rfl rfl bV R3 (HA.wk (E2.tr E3)).2 (by rw [List.length_map, HA.1]) aJ Om Om E3.size) rfl ?_;rintro _ _ ⟨_, _, rfl, R4, be, gr, hl⟩;have E4 := E3.trans be;refine af (aF (z := .int .u8 0) Tn.u Kr rfl rfl rfl rfl rfl) rfl ?_;rintro _ w5 ⟨g5, rfl, B5, Zb, ex⟩;have E5 := E4.ext ex; have R5 := R4.ext ex;refine af (aT rfl rfl bV R5 (At.fA (vs := [(128 : UInt8)].map bv) (B5.congr rfl)) rfl aJ Om Om E5.size) rfl ?_;rintro _ w6 ⟨A6, c6, rfl, R6, be, gr, hl⟩;have E6 := E5.trans be; replace R6 := R6.cat;refine aU ?_;refine aE (fun n' L wr => ∃ (k c8 : Nat) (A8 : Oa), L = [(0, .slice A n c), (2, .slice (some ⟨gK, oK, none⟩) 64 c2), (7, .slice (cf gh) 8 ch), (8, .slice A8 (n + 1 + k) c8)] ∧ n' = Sha.cv n - k ∧ (k ≤ Sha.cv n ∧ Ext w2 wr ∧ Row wr w2.heap.size 5 A8 (n + 1 + k) c8 ((xs ++ 128 :: List.replicate k 0).map bv))) _ _ ⟨0, c6, A6, rfl, rfl, Om, E6, R6⟩ Ls ?_;rintro _ n' L wr ⟨k, c8, A8, rfl, rfl, hk, E, R⟩ ZB;refine au 5 ?_;refine ak (cR rfl rfl Om (show (((n + 1 + k : Nat) : Int).tmod 64) = (((n + 1 + k) % 64 : Nat) : Int) from rfl)) ?_;refine aa1 (fun ZC => ?_) (fun ZC => ?_)
 ·have hkz : k < Sha.cv n := Om
  refine aU ?_;refine af (aF (z := .int .u8 0) Tn.u Kr rfl rfl rfl rfl rfl) rfl ?_;rintro _ w7 ⟨g7, rfl, B7, Zs, ex⟩;have E7 := E.ext ex; have R7 := R.ext ex;refine af (aT rfl rfl bV R7 (At.fA (vs := [(0 : UInt8)].map bv) (B7.congr rfl)) rfl aJ Om Om E7.size) rfl ?_;rintro _ w8 ⟨A9, c9, rfl, R8, be, gr, hl⟩;have E8 := E7.trans be; replace R8 := R8.cat;refine au 3 ?_;refine ae ?_;refine ZB _ _ ⟨k + 1, c9, A9, rfl, rfl, Om, E8, (by rw [List.append_assoc, List.cons_append, ← List.replicate_succ'] at R8; exact R8)⟩ Om Ls
 obtain rfl : k = Sha.cv n := Om
 obtain ⟨tl, htl⟩ : ∃ l, l = Sha.lM (n * 8) := ⟨_, rfl⟩
 have htll : tl.length = 8 := by rw [htl]; rfl
 refine au 9 ?_;refine ak (bc rfl Tn.u Tn.u (c := (n : Int)) (show IntKind.u64.wrap (n : Int) = (n : Int) from aG rfl Om)) ?_;refine ak (cS rfl rfl (aG (n := n * 8) Om Om)) ?_;refine aU ?_;refine aE (fun n' L wr => ∃ (i c6 : Nat) (A6 : Oa), L = [(2, .slice (some ⟨gK, oK, none⟩) 64 c2), (7, .slice (cf gh) 8 ch), (8, .slice A6 (n + 1 + Sha.cv n + i) c6), (9, .int .u64 ((n * 8 : Nat) : Int)), (10, .int .i64 (i : Int))] ∧ n' = 8 - i ∧ (i ≤ 8 ∧ Ext w2 wr ∧ Row wr w2.heap.size 5 A6 (n + 1 + Sha.cv n + i) c6 ((xs ++ 128 :: List.replicate (Sha.cv n) 0 ++ tl.take i).map bv))) _ _ ⟨0, c8, A8, rfl, rfl, Om, E, (by rw [List.take_zero, List.append_nil]; exact R)⟩ Ls ?_;rintro _ n' L wr ⟨i, c6, A6, rfl, rfl, hi, E, R⟩ ZD;refine aa1 (fun ZE => ?_) (fun ZE => ?_)
 ·refine aU ?_;refine aE (fun n' L wq => ∃ k : Nat, L = [(2, .slice (some ⟨gK, oK, none⟩) 64 c2), (7, .slice (cf gh) 8 ch), (8, .slice A6 (n + 1 + Sha.cv n + i) c6), (9, .int .u64 ((n * 8 : Nat) : Int)), (10, .int .i64 (i : Int)), (11, .int .u64 ((256 ^ k : Nat) : Int)), (12, .int .i64 (k : Int))] ∧ n' = 7 - i - k ∧ (k ≤ 7 - i ∧ wq = wr)) _ _ ⟨0, rfl, rfl, Om, rfl⟩ Ls ?_;rintro _ n' L wq ⟨k, rfl, rfl, hk, hwq⟩ ZF;refine au 5 ?_;refine ak (fG rfl rfl (bk (n := 7 - i) Om Om)) ?_;refine aa1 (fun ZG => ?_) (fun ZG => ?_)
  ·have hpw : 256 ^ (k + 1) ≤ 72057594037927936 := Nat.pow_le_pow_right (n := 256) Om (show k + 1 ≤ 7 by omega);refine au 6 ?_;refine ak (cS rfl rfl (aG (n := 256 ^ (k + 1)) (by rw [Nat.pow_succ]; exact (Int.natCast_mul _ _).symm) Om)) ?_;refine au 9 ?_;refine ae ?_;refine ZF _ _ ⟨k + 1, rfl, rfl, Om, hwq⟩ Om Ls
  refine au 5 ?_;obtain rfl : k = 7 - i := Om
  subst hwq
  obtain ⟨u, hu⟩ : ∃ u, u = 256 ^ (7 - i) := ⟨_, rfl⟩
  have Zj : 0 < u := by rw [hu]; exact Nat.pow_pos Om
  have hqd := Nat.div_le_self (n * 8) u;rw [← hu];refine au 4 ?_;refine ak (dI rfl rfl Om (show IntKind.u64.wrap (((n * 8 : Nat) : Int).tdiv (u : Int)) = ((n * 8 / u : Nat) : Int) from aG rfl Om)) ?_;refine ak (cR rfl rfl Om (show (((n * 8 / u : Nat) : Int).tmod 256) = ((n * 8 / u % 256 : Nat) : Int) from rfl)) ?_;refine ak (bc rfl Tn.u Tn.u (VK _)) ?_;refine af (aF (z := .int .u8 0) Tn.u Kr rfl rfl rfl rfl rfl) rfl ?_;rintro _ w7 ⟨g7, rfl, B7, Zs, ex⟩;have E7 := E.ext ex; have R7 := R.ext ex;refine af (aT rfl rfl bV R7 (At.fA (vs := [UInt8.ofNat (n * 8 / u)].map bv) (B7.congr rfl)) rfl aJ Om Om E7.size) rfl ?_;rintro _ w8 ⟨A9, c9, rfl, R8, be, gr, hl⟩;have E8 := E7.trans be; replace R8 := R8.cat; rw [hu, Uq _ _ Om, ← htl, List.append_assoc _ (List.take i _), DG _ _ _ Om] at R8;refine au 9 ?_;refine ae ?_;refine ZD _ _ ⟨i + 1, c9, A9, rfl, rfl, Om, E8, R8⟩ Om Ls
 refine au 7 ?_;obtain rfl : i = 8 := Om
 obtain ⟨M, hM⟩ : ∃ M, M = xs ++ Sha.pad n := ⟨_, rfl⟩
 have hMr : xs ++ 128 :: List.replicate (Sha.cv n) 0 ++ tl.take 8 = M := by rw [List.take_of_length_le Om, hM, htl]; simp [Sha.pad]
 rw [hMr] at R
 obtain ⟨nM, hnM⟩ : ∃ q, q = n + 1 + Sha.cv n + 8 := ⟨_, rfl⟩
 rw [← hnM] at R ⊢;have hMl : M.length = nM := by have := R.len; simpa using this
 obtain ⟨gM, _, rfl, _, _, ZH, hgMl, _⟩ := R.get (i := 0) Om;have HM := R.bs;have ZI := RH.ext E;have Ew := E2.tr E;refine aU ?_;refine aE (fun n' L wa => ∃ k : Nat, L = [(2, .slice (some ⟨gK, oK, none⟩) 64 c2), (7, .slice (cf gh) 8 ch), (8, .slice (cf gM) nM c6), (13, .int .i64 ((64 * k : Nat) : Int))] ∧ n' = nM + 64 - 64 * k ∧ (64 * k ≤ nM ∧ wr.grownBy wa (some gh) ∧ Row wa w.heap.size 38 (cf gh) 8 ch ((Sha.blocks Sha.IV M k).list.map (iv .u64)))) _ _ ⟨0, rfl, rfl, Om, World.grownBy.refl _ _, ZI⟩ Ls ?_;rintro _ n' L wa ⟨k, rfl, rfl, hk, G, Za⟩ ZJ;refine aa1 (fun ZK => ?_) (fun ZK => ?_)
 ·have hMm : nM % 64 = 0 := by rw [← hMl, hM, List.length_append, hxl]; exact Sha.kU n
  have HMa : Bs wa (cf gM) nM M := HM.grown G (by intro b o e; injection e with e; injection e; omega);have HKa : Ns .u64 wa (some ⟨gK, oK, none⟩) 64 Sha.K := (Zr.ext Ew).JL G (by intro o e; injection e with e; injection e; omega)
  obtain ⟨bl, hbl⟩ : ∃ l, l = (M.drop (64 * k)).take 64 := ⟨_, rfl⟩
  obtain ⟨S, hS⟩ : ∃ s, s = Sha.blocks Sha.IV M k := ⟨_, rfl⟩
  have hSok : S.ok := by rw [hS]; exact Sha.gW Sha.rD _ _
  rw [← hS] at Za;have hgha := (Row.lt Za).2;refine aU ?_;refine aE (fun n' L wb => ∃ (t YW : Nat) (Zg : Oa), L = [(2, .slice (some ⟨gK, oK, none⟩) 64 c2), (7, .slice (cf gh) 8 ch), (8, .slice (cf gM) nM c6), (13, .int .i64 ((64 * k : Nat) : Int)), (14, .slice Zg t YW), (15, .int .i64 (t : Int))] ∧ n' = 64 - t ∧ (t ≤ 64 ∧ Ext wa wb ∧ Row wb wa.heap.size 38 Zg t YW ((Sha.wt bl t).map (iv .u64)))) _ _ ⟨0, 0, none, rfl, rfl, Om, Ext.refl _, Row.empty _ _ _⟩ Ls ?_;rintro _ n' L wb ⟨t, YW, Zg, rfl, rfl, ht, F, R⟩ Zt;refine aa1 (fun ZL => ?_) (fun ZL => ?_)
  ·refine aa1 (fun ZM => ?_) (fun ZM => ?_)
   ·refine aU ?_;refine aE (fun n' L wc => ∃ i : Nat, L = [(2, .slice (some ⟨gK, oK, none⟩) 64 c2), (7, .slice (cf gh) 8 ch), (8, .slice (cf gM) nM c6), (13, .int .i64 ((64 * k : Nat) : Int)), (14, .slice Zg t YW), (15, .int .i64 (t : Int)), (16, .int .u64 ((Sha.pre bl t i : Nat) : Int)), (17, .int .i64 (i : Int))] ∧ n' = 4 - i ∧ (i ≤ 4 ∧ wc = wb)) _ _ ⟨0, rfl, rfl, Om, rfl⟩ Ls ?_;rintro _ n' L wc ⟨i, rfl, rfl, hi, hwc⟩ ZN;refine aa1 (fun ZO => ?_) (fun ZO => ?_)
    ·subst hwc;have hpl := Sha.xG bl t i;have hpp : 256 ^ i ≤ 16777216 := Nat.pow_le_pow_right (n := 256) Om (show i ≤ 3 by omega);have hbyte := (bl.getD (4 * t + i) 0).toNat_lt;refine au 6 ?_;refine ak (cS rfl rfl (aG (n := 256 * Sha.pre bl t i) Om Om)) ?_;refine au 3 ?_;refine ak (cS rfl rfl (bk (n := 4 * t) Om Om)) ?_;refine ak (aO rfl rfl (bk (n := 64 * k + 4 * t) Om Om)) ?_;refine au 1 ?_;refine ak (aO rfl rfl (bk (n := 64 * k + 4 * t + i) Om Om)) ?_;refine ak (aC rfl rfl Tn.u Kr (j := 64 * k + 4 * t + i) rfl Om) ?_;refine ak (ah rfl Tn.u rfl (show _ = some (.int .u8 ((bl.getD (4 * t + i) 0).toNat : Int)) from by rw [hbl, ← Ap _ _ _ _ Om Om]; exact (HMa.wk F).cellAt Om)) ?_;refine ak (bc rfl Tn.u Tn.u (aG rfl Om)) ?_;refine ak (aO rfl rfl (aG (n := 256 * Sha.pre bl t i + (bl.getD (4 * t + i) 0).toNat) Om Om)) ?_;refine au 9 ?_;refine ae ?_;refine ZN _ _ ⟨i + 1, rfl, rfl, Om, rfl⟩ Om Ls
    obtain rfl : i = 4 := Om
    subst hwc;have hwt : Sha.wt bl t ++ [Sha.pre bl t 4] = Sha.wt bl (t + 1) := by rw [Sha.NW]; exact (Sha.TE Om).symm
    refine aU ?_;refine af (aF (z := .int .u64 0) Tn.u Kr rfl rfl rfl rfl rfl) rfl ?_;rintro _ w5 ⟨g5, rfl, B5, Zb, ex⟩;have R5 := R.ext ex; have F5 := F.ext ex; have Zk := F5.size;refine af (aT rfl rfl Li R5 (At.fA (vs := [Sha.pre bl t 4].map (iv .u64)) (B5.congr rfl)) rfl oN Om Om Zk) rfl ?_;rintro _ w6 ⟨A6, c7, rfl, R6, be, gr, hl⟩;have F6 := F5.trans be; have R7 := R6.XV; rw [hwt] at R7;refine au 12 ?_;refine ae ?_;refine Zt _ _ ⟨t + 1, c7, A6, rfl, rfl, Om, F6, R7⟩ Om Ls
   refine au 3 ?_;obtain ⟨Zc, _, rfl, _, _, _, _, _⟩ := R.get (i := 0) Om;have Hw := Ns.oM R;have hlt : ∀ j, (Sha.wt bl t).getD j 0 < 4294967296 := Sha.fJ (Sha.Mm bl t)
   obtain ⟨YU, Zd⟩ : ∃ v, v = (Sha.wt bl t).getD (t - 15) 0 := ⟨_, rfl⟩
   obtain ⟨v2, e2⟩ : ∃ v, v = (Sha.wt bl t).getD (t - 2) 0 := ⟨_, rfl⟩
   obtain ⟨v7, e7⟩ : ∃ v, v = (Sha.wt bl t).getD (t - 7) 0 := ⟨_, rfl⟩
   obtain ⟨Zu, Zl⟩ : ∃ v, v = (Sha.wt bl t).getD (t - 16) 0 := ⟨_, rfl⟩
   have YV := hlt (t - 15); have l2 := hlt (t - 2); have l7 := hlt (t - 7); have ZP := hlt (t - 16);rw [← Zd] at YV; rw [← e2] at l2; rw [← e7] at l7; rw [← Zl] at ZP;have d15 : YU / 2 ^ 3 < 4294967296 := Nat.lt_of_le_of_lt (Nat.div_le_self _ _) YV;have d2 : v2 / 2 ^ 10 < 4294967296 := Nat.lt_of_le_of_lt (Nat.div_le_self _ _) l2;have q0 := FZ (Sha.ba YV (show 7 ≤ 32 by omega)) (Sha.ba YV (show 18 ≤ 32 by omega)) d15;have q1 := FZ (Sha.ba l2 (show 17 ≤ 32 by omega)) (Sha.ba l2 (show 19 ≤ 32 by omega)) d2
   obtain ⟨Z, hZ⟩ : ∃ Z, Z = ((Sha.cP v2 17 ^^^ Sha.cP v2 19) ^^^ (v2 / 2 ^ 10)) + v7 + ((Sha.cP YU 7 ^^^ Sha.cP YU 18) ^^^ (YU / 2 ^ 3)) + Zu := ⟨_, rfl⟩
   have hZn : Z % 4294967296 = Sha.gE (Sha.wt bl t) (t - 16) := by unfold Sha.gE;rw [show t - 16 + 14 = t - 2 from Om, show t - 16 + 9 = t - 7 from Om, show t - 16 + 1 = t - 15 from Om, ← e2, ← e7, ← Zd, ← Zl, hZ];rfl
   refine aD Kr 21 rfl ?_; intro ZQ ex ZR;obtain ⟨F,R,Hw⟩ := bh ex F R Hw;refine zm [0, 1, 2] ?_;refine my 3 rfl (aC rfl rfl Tn.u Kr (j := t - 15) Om Om) ?_;refine my 4 rfl (ah rfl Tn.u rfl (show _ = some (.int .u64 ((YU : Nat) : Int)) from by rw [Zd]; exact Hw.cellAt Om)) ?_;refine zm [6, 7, 8] ?_;refine my 9 rfl (aC rfl rfl Tn.u Kr (j := t - 15) Om Om) ?_;refine my 10 rfl (ah rfl Tn.u rfl (show _ = some (.int .u64 ((YU : Nat) : Int)) from by rw [Zd]; exact Hw.cellAt Om)) ?_;refine zm [13, 14, 15] ?_;refine my 16 rfl (aC rfl rfl Tn.u Kr (j := t - 15) Om Om) ?_;refine my 17 rfl (ah rfl Tn.u rfl (show _ = some (.int .u64 ((YU : Nat) : Int)) from by rw [Zd]; exact Hw.cellAt Om)) ?_;refine bC 5 rfl func187 rfl (eD YU 7 _ YV Om) ?_;rintro e w9 ⟨rfl, ex⟩;refine aU ?_;obtain ⟨F,R,Hw⟩ := bh ex F R Hw;refine bC 11 rfl func187 rfl (eD YU 18 _ YV Om) ?_;rintro e w9 ⟨rfl, ex⟩;refine aU ?_;obtain ⟨F,R,Hw⟩ := bh ex F R Hw;refine my 12 rfl (bO rfl rfl rfl) ?_;refine bC 18 rfl func188 rfl (tS YU 3 _ YV Om) ?_;rintro e w9 ⟨rfl, ex⟩;refine aU ?_;obtain ⟨F,R,Hw⟩ := bh ex F R Hw;refine my 19 rfl (bO rfl rfl (ER _ _ _ (Sha.ba YV Om) (Sha.ba YV Om) d15)) ?_;refine zm [20] ?_;refine aD Kr 21 rfl ?_; intro ZS ex ZT;obtain ⟨F,R,Hw⟩ := bh ex F R Hw;refine zm [0, 1, 2] ?_;refine my 3 rfl (aC rfl rfl Tn.u Kr (j := t - 2) Om Om) ?_;refine my 4 rfl (ah rfl Tn.u rfl (show _ = some (.int .u64 ((v2 : Nat) : Int)) from by rw [e2]; exact Hw.cellAt Om)) ?_;refine zm [6, 7, 8] ?_;refine my 9 rfl (aC rfl rfl Tn.u Kr (j := t - 2) Om Om) ?_;refine my 10 rfl (ah rfl Tn.u rfl (show _ = some (.int .u64 ((v2 : Nat) : Int)) from by rw [e2]; exact Hw.cellAt Om)) ?_;refine zm [13, 14, 15] ?_;refine my 16 rfl (aC rfl rfl Tn.u Kr (j := t - 2) Om Om) ?_;refine my 17 rfl (ah rfl Tn.u rfl (show _ = some (.int .u64 ((v2 : Nat) : Int)) from by rw [e2]; exact Hw.cellAt Om)) ?_;refine bC 5 rfl func187 rfl (eD v2 17 _ l2 Om) ?_;rintro e w9 ⟨rfl, ex⟩;refine aU ?_;obtain ⟨F,R,Hw⟩ := bh ex F R Hw;refine bC 11 rfl func187 rfl (eD v2 19 _ l2 Om) ?_;rintro e w9 ⟨rfl, ex⟩;refine aU ?_;obtain ⟨F,R,Hw⟩ := bh ex F R Hw;refine my 12 rfl (bO rfl rfl rfl) ?_;refine bC 18 rfl func188 rfl (tS v2 10 _ l2 Om) ?_;rintro e w9 ⟨rfl, ex⟩;refine aU ?_;obtain ⟨F,R,Hw⟩ := bh ex F R Hw;refine my 19 rfl (bO rfl rfl (ER _ _ _ (Sha.ba l2 Om) (Sha.ba l2 Om) d2)) ?_;refine zm [20] ?_;refine aD Kr 20 rfl ?_; intro ZU ex ZV;obtain ⟨F,R,Hw⟩ := bh ex F R Hw;refine zm [0, 1, 2, 3, 4] ?_;refine dF 5 rfl (fun _ => aC rfl rfl Tn.u Kr (j := t - 7) Om Om) ?_;refine my 6 rfl (ah rfl Tn.u rfl (show _ = some (.int .u64 ((v7 : Nat) : Int)) from by rw [e7]; exact Hw.cellAt Om)) ?_;refine dF 7 rfl (fun _ => aO rfl rfl rfl) ?_;refine zm [8] ?_;refine dF 9 rfl (fun _ => aO rfl rfl rfl) ?_;refine zm [10, 11, 12] ?_;refine dF 13 rfl (fun _ => aC rfl rfl Tn.u Kr (j := t - 16) Om Om) ?_;refine my 14 rfl (ah rfl Tn.u rfl (show _ = some (.int .u64 ((Zu : Nat) : Int)) from by rw [Zl]; exact Hw.cellAt Om)) ?_;refine dF 15 rfl (fun _ => Y.as (aO rfl rfl rfl) (congrArg (Value.int .u64) (show _ = ((Z : Nat) : Int) from by rw [kN, kN, kN, hZ]; omega))) ?_;refine dF 16 rfl (fun _ => cR rfl rfl Om (show ((Z : Int).tmod 4294967296) = ((Sha.gE (Sha.wt bl t) (t - 16) : Nat) : Int) from by rw [← hZn]; rfl)) ?_;have hwt : Sha.wt bl t ++ [Sha.gE (Sha.wt bl t) (t - 16)] = Sha.wt bl (t + 1) := (Sha.wY Om).symm;refine aR 17 Kr ?_; refine bE rfl (aF (z := .int .u64 0) Tn.u Kr rfl rfl rfl rfl rfl) rfl ?_;rintro _ w5 ⟨g5, rfl, B5, Zb, ex⟩;refine ⟨.inr ex, ?_⟩;have R5 := R.ext ex; have F5 := F.ext ex; have Zk := F5.size;refine aR 18 Kr ?_; refine bE rfl (aT rfl rfl Li R5 (At.fA (vs := [Sha.gE (Sha.wt bl t) (t - 16)].map (iv .u64)) (B5.congr rfl)) rfl oN Om Om Zk) rfl ?_;rintro _ w6 ⟨A6, c7, rfl, R6, be, gr, hl⟩;refine ⟨.inl rfl, ?_⟩;have F6 := F5.trans be; have R7 := R6.XV; rw [hwt] at R7;refine BL [19] ?_;refine au 11 ?_;refine ae ?_;refine Zt _ _ ⟨t + 1, c7, A6, rfl, rfl, Om, F6, R7⟩ Om Ls
  obtain rfl : t = 64 := Om
  rw [Sha.um] at R;obtain ⟨Zc, _, rfl, _, _, _, _, _⟩ := R.get (i := 0) Om;have Hw := Ns.oM R;have Hh := (Ns.oM Za).ext F;refine aU ?_;refine af (aF (z := .int .u64 0) Tn.u Kr rfl rfl rfl rfl rfl) rfl ?_;rintro _ w5 ⟨g5, rfl, B5, Zb, ex⟩;have x5 := ex; have R5 : Row w5 wb.heap.size 38 (cf g5) 0 0 (([] : List Nat).map (iv .u64)) := Row.new B5 Zb rfl (by unfold maxLen; omega);refine aU ?_;refine af (iA rfl rfl Li R5 (Hh.ext x5).2 (by rw [List.length_map, sv]) oN Om Om x5.size) rfl ?_;rintro _ w6 ⟨Y0, YX, rfl, Zv, be, gr, hl⟩;have x6 : Ext wb w6 := x5.trans be;refine aU ?_;have hF6 := F.size;refine aE (fun n' L wd => ∃ (t YX : Nat) (Y0 : Oa), L = [(2, .slice (some ⟨gK, oK, none⟩) 64 c2), (7, .slice (cf gh) 8 ch), (8, .slice (cf gM) nM c6), (13, .int .i64 ((64 * k : Nat) : Int)), (14, .slice (cf Zc) 64 YW), (20, .slice Y0 8 YX), (21, .int .i64 (t : Int))] ∧ n' = 64 - t ∧ (t ≤ 64 ∧ Ext wb wd ∧ Ns .u64 wd Y0 8 (Sha.rounds (Sha.words bl) S t).list ∧ (∀ o, Y0 ≠ some ⟨gh, o, none⟩))) _ _ ⟨0, YX, Y0, rfl, rfl, Om, x6, Ns.oM Zv, (fun o e => by have := Sl Zv gh o e; omega)⟩ Ls ?_;rintro _ n' L wd ⟨t, YX, Y0, rfl, rfl, ht, X, HV, hfar⟩ ZW;refine aa1 (fun ZX => ?_) (fun ZX => ?_)
  ·obtain ⟨Ze, Zf, _, rfl, _⟩ := HV.cell (i := 0) Om
   obtain ⟨Q, hQ⟩ : ∃ Q, Q = Sha.rounds (Sha.words bl) S t := ⟨_, rfl⟩
   have hok : Q.ok := by rw [hQ]; exact Sha.gk _ hSok _
   rw [← hQ] at HV;obtain ⟨a, b, cc, d, e, f, gg, hh⟩ := Q;obtain ⟨la, lb, lc, ld, le, lf, lg, lh⟩ := hok
   obtain ⟨C, hC⟩ : ∃ C, C = Sha.ch e f gg := ⟨_, rfl⟩
   obtain ⟨J, hJ⟩ : ∃ C, C = Sha.yu a b cc := ⟨_, rfl⟩
   have hCl : C < 4294967296 := by rw [hC]; exact Sha.Va le
   have hJl : J < 4294967296 := by rw [hJ]; exact Sha.TT la lb
   refine aU ?_;refine aE (fun n' L we => ∃ (i u : Nat), L = [(2, .slice (some ⟨gK, oK, none⟩) 64 c2), (7, .slice (cf gh) 8 ch), (8, .slice (cf gM) nM c6), (13, .int .i64 ((64 * k : Nat) : Int)), (14, .slice (cf Zc) 64 YW), (20, .slice (some ⟨Ze, Zf, none⟩) 8 YX), (21, .int .i64 (t : Int)), (22, .int .u64 ((C % u : Nat) : Int)), (23, .int .u64 ((J % u : Nat) : Int)), (24, .int .u64 (u : Int)), (25, .int .i64 (i : Int))] ∧ n' = 32 - i ∧ (i ≤ 32 ∧ u = 2 ^ i ∧ Ext wb we ∧ Ns .u64 we (some ⟨Ze, Zf, none⟩) 8 [a, b, cc, d, e, f, gg, hh])) _ _ ⟨0, 1, rfl, rfl, Om, rfl, X, HV⟩ Ls ?_;rintro _ n' L we ⟨i, u, rfl, rfl, hi, hu, X, HV⟩ ZY;refine aa1 (fun ZZ => ?_) (fun ZZ => ?_)
   ·have hul : u ≤ 2147483648 := by rw [hu]; exact Nat.le_trans (Nat.pow_le_pow_right Om (show i ≤ 31 by omega)) (Nat.le_refl _)
    have Zj : 0 < u := by rw [hu]; exact Nat.two_pow_pos i
    have hun : 2 * u = 2 ^ (i + 1) := by rw [Nat.pow_succ, ← hu, Nat.mul_comm]
    have hCm := Nat.mod_lt C Zj;have hJm := Nat.mod_lt J Zj;have hfu := ES (f / u) u;have hgu := ES (gg / u) u;refine au 8 ?_;refine ak (aC rfl rfl Tn.u Kr (j := 4) rfl Om) ?_;refine ak (ah rfl Tn.u rfl (HV.cellAt (i := 4) Om)) ?_;refine au 1 ?_;refine ak (dI rfl rfl Om (YT (x := e) le)) ?_;refine ak (cR rfl rfl Om (YS _)) ?_;refine aU ?_;refine iB (fun L YY => L = [(2, .slice (some ⟨gK, oK, none⟩) 64 c2), (7, .slice (cf gh) 8 ch), (8, .slice (cf gM) nM c6), (13, .int .i64 ((64 * k : Nat) : Int)), (14, .slice (cf Zc) 64 YW), (20, .slice (some ⟨Ze, Zf, none⟩) 8 YX), (21, .int .i64 (t : Int)), (22, .int .u64 ((C % (2 * u) : Nat) : Int)), (23, .int .u64 ((J % u : Nat) : Int)), (24, .int .u64 (u : Int)), (25, .int .i64 (i : Int))] ∧ (YY = we)) ?_ ?_
    ·skip;refine al rfl (fun Y2 => ?_) (fun Y2 => ?_)
     ·refine au 3 ?_;refine ak (aC rfl rfl Tn.u Kr (j := 5) rfl Om) ?_;refine ak (ah rfl Tn.u rfl (HV.cellAt (i := 5) Om)) ?_;refine au 1 ?_;refine ak (dI rfl rfl Om (YT (x := f) lf)) ?_;refine ak (cR rfl rfl Om (YS _)) ?_;refine au 1 ?_;refine ak (cS rfl rfl (aG (n := f / u % 2 * u) (Int.natCast_mul _ _).symm Om)) ?_;refine ak (aO rfl rfl (aG (n := C % u + f / u % 2 * u) Om Om)) ?_;refine aU ?_;have hCn : C % u + f / u % 2 * u = C % (2 * u) := by rw [hun, hC, Sha.MK le Om (by rw [← hu]; exact_mod_cast Y2), hu]
      exact cV _ ⟨rfl, rfl⟩ Ls
     refine au 3 ?_;refine ak (aC rfl rfl Tn.u Kr (j := 6) rfl Om) ?_;refine ak (ah rfl Tn.u rfl (HV.cellAt (i := 6) Om)) ?_;refine au 1 ?_;refine ak (dI rfl rfl Om (YT (x := gg) lg)) ?_;refine ak (cR rfl rfl Om (YS _)) ?_;refine au 1 ?_;refine ak (cS rfl rfl (aG (n := gg / u % 2 * u) (Int.natCast_mul _ _).symm Om)) ?_;refine ak (aO rfl rfl (aG (n := C % u + gg / u % 2 * u) Om Om)) ?_;refine aU ?_;have hCn : C % u + gg / u % 2 * u = C % (2 * u) := by rw [hun, hC, Sha.KR le Om (by rw [← hu]; exact fun h => Y2 (by exact_mod_cast h)), hu]
     exact cV _ ⟨rfl, rfl⟩ Ls
    rintro L YY ⟨rfl, rfl⟩;refine aU ?_;refine aD Kr 21 rfl ?_; intro Zm ex Z0;obtain ⟨X,HV⟩ := aS ex X HV;refine zm [0] ?_;refine my 1 rfl (aC rfl rfl Tn.u Kr (j := 0) rfl Om) ?_;refine my 2 rfl (ah rfl Tn.u rfl (HV.cellAt (i := 0) Om)) ?_;refine zm [3] ?_;refine my 4 rfl (dI rfl rfl Om (YT (x := a) la)) ?_;refine my 5 rfl (cR rfl rfl Om (YS _)) ?_;refine zm [6] ?_;refine my 7 rfl (aC rfl rfl Tn.u Kr (j := 1) rfl Om) ?_;refine my 8 rfl (ah rfl Tn.u rfl (HV.cellAt (i := 1) Om)) ?_;refine zm [9] ?_;refine my 10 rfl (dI rfl rfl Om (YT (x := b) lb)) ?_;refine my 11 rfl (cR rfl rfl Om (YS _)) ?_;refine my 12 rfl (aO rfl rfl (aG (n := a / u % 2 + b / u % 2) Om Om)) ?_;refine zm [13] ?_;refine my 14 rfl (aC rfl rfl Tn.u Kr (j := 2) rfl Om) ?_;refine my 15 rfl (ah rfl Tn.u rfl (HV.cellAt (i := 2) Om)) ?_;refine zm [16] ?_;refine my 17 rfl (dI rfl rfl Om (YT (x := cc) lc)) ?_;refine my 18 rfl (cR rfl rfl Om (YS _)) ?_;refine my 19 rfl (aO rfl rfl (aG (n := a / u % 2 + b / u % 2 + cc / u % 2) Om Om)) ?_;refine zm [20] ?_;refine iB (fun L YZ => L = [(2, .slice (some ⟨gK, oK, none⟩) 64 c2), (7, .slice (cf gh) 8 ch), (8, .slice (cf gM) nM c6), (13, .int .i64 ((64 * k : Nat) : Int)), (14, .slice (cf Zc) 64 YW), (20, .slice (some ⟨Ze, Zf, none⟩) 8 YX), (21, .int .i64 (t : Int)), (22, .int .u64 ((C % (2 * u) : Nat) : Int)), (23, .int .u64 ((J % (2 * u) : Nat) : Int)), (24, .int .u64 (u : Int)), (25, .int .i64 (i : Int))] ∧ (YZ = Zm)) ?_ ?_
    ·skip;refine al rfl (fun Y3 => ?_) (fun Y3 => ?_)
     ·refine au 3 ?_;refine ak (aO rfl rfl (aG (n := J % u + u) Om Om)) ?_;refine aU ?_;have hJn : J % u + u = J % (2 * u) := by rw [hun, hJ, Sha.vg (by rw [← hu]; exact_mod_cast Y3), hu]
      exact cV _ ⟨rfl, rfl⟩ Ls
     refine aU ?_;have hJn : J % u = J % (2 * u) := by rw [hun, hJ, Sha.wL (by rw [← hu]; exact fun h => Y3 (by exact_mod_cast h)), hu]
     exact cV _ ⟨rfl, rfl⟩ Ls
    rintro L YZ ⟨rfl, rfl⟩;refine au 3 ?_;refine ak (cS rfl rfl (aG (n := 2 * u) Om Om)) ?_;refine au 9 ?_;refine ae ?_;refine ZY _ _ ⟨i + 1, 2 * u, rfl, rfl, Om, hun, X, HV⟩ Om Ls
   refine au 6 ?_;obtain rfl : i = 32 := Om
   obtain rfl : u = 4294967296 := by rw [hu]
   rw [Nat.mod_eq_of_lt hCl, Nat.mod_eq_of_lt hJl]
   obtain ⟨kt, hkt⟩ : ∃ q, q = Sha.K.getD t 0 := ⟨_, rfl⟩
   obtain ⟨wt, hwt⟩ : ∃ q, q = (Sha.words bl).getD t 0 := ⟨_, rfl⟩
   obtain ⟨T, hT⟩ : ∃ T, T = Sha.T1 ⟨a, b, cc, d, e, f, gg, hh⟩ kt wt := ⟨_, rfl⟩
   obtain ⟨U, hU⟩ : ∃ T, T = Sha.T2 ⟨a, b, cc, d, e, f, gg, hh⟩ := ⟨_, rfl⟩
   have Z1 : T = hh + ((Sha.cP e 6 ^^^ Sha.cP e 11) ^^^ Sha.cP e 25) + C + kt + wt := by rw [hT, hC]; rfl
   have Z2 : U = ((Sha.cP a 2 ^^^ Sha.cP a 13) ^^^ Sha.cP a 22) + J := by rw [hU, hJ]; rfl
   have hk1 : kt < 4294967296 := by rw [hkt]; exact Sha.fJ Sha.Wi _
   have hw1 : wt < 4294967296 := by rw [hwt]; exact Sha.fJ (Sha.La bl) _
   have hS1 : (Sha.cP e 6 ^^^ Sha.cP e 11) ^^^ Sha.cP e 25 < 4294967296 := Sha.Vs le;have hS0 : (Sha.cP a 2 ^^^ Sha.cP a 13) ^^^ Sha.cP a 22 < 4294967296 := Sha.VB la;refine aD Kr 31 rfl ?_; intro Z5 ex Z6;obtain ⟨X,HV⟩ := aS ex X HV;refine zm [0] ?_;refine my 1 rfl (aC rfl rfl Tn.u Kr (j := 7) rfl Om) ?_;refine my 2 rfl (ah rfl Tn.u rfl (HV.cellAt (i := 7) Om)) ?_;refine zm [3] ?_;refine my 4 rfl (aC rfl rfl Tn.u Kr (j := 4) rfl Om) ?_;refine my 5 rfl (ah rfl Tn.u rfl (HV.cellAt (i := 4) Om)) ?_;refine zm [7] ?_;refine my 8 rfl (aC rfl rfl Tn.u Kr (j := 4) rfl Om) ?_;refine my 9 rfl (ah rfl Tn.u rfl (HV.cellAt (i := 4) Om)) ?_;refine zm [12] ?_;refine my 13 rfl (aC rfl rfl Tn.u Kr (j := 4) rfl Om) ?_;refine my 14 rfl (ah rfl Tn.u rfl (HV.cellAt (i := 4) Om)) ?_;refine zm [18, 20, 21, 22] ?_;refine my 23 rfl (ah rfl Tn.u rfl (show _ = some (.int .u64 ((kt : Nat) : Int)) from by rw [hkt]; exact (HKa.wk (F.tr X)).cellAt Om)) ?_;refine zm [25, 26, 27] ?_;refine my 28 rfl (ah rfl Tn.u rfl (show _ = some (.int .u64 ((wt : Nat) : Int)) from by rw [hwt]; exact (Hw.wk X).cellAt Om)) ?_;refine bC 6 rfl func187 rfl (eD e 6 _ le Om) ?_;rintro e w9 ⟨rfl, ex⟩;obtain ⟨X,HV⟩ := aS ex X HV;refine aU ?_;refine bC 10 rfl func187 rfl (eD e 11 _ le Om) ?_;rintro e w9 ⟨rfl, ex⟩;obtain ⟨X,HV⟩ := aS ex X HV;refine aU ?_;refine my 11 rfl (bO rfl rfl rfl) ?_;refine bC 15 rfl func187 rfl (eD e 25 _ le Om) ?_;rintro e w9 ⟨rfl, ex⟩;obtain ⟨X,HV⟩ := aS ex X HV;refine aU ?_;refine my 16 rfl (bO rfl rfl (ER _ _ _ (Sha.ba le Om) (Sha.ba le Om) (Sha.ba le Om))) ?_;refine my 17 rfl (aO rfl rfl rfl) ?_;refine my 19 rfl (aO rfl rfl rfl) ?_;refine my 24 rfl (aO rfl rfl rfl) ?_;refine my 29 rfl (Y.as (aO rfl rfl rfl) (congrArg (Value.int .u64) (show _ = ((T : Nat) : Int) from by rw [kN, kN, kN, kN, Z1, show ([a, b, cc, d, e, f, gg, hh].getD 7 0) = hh from rfl]; have : hh < 4294967296 := lh; omega))) ?_;refine zm [30] ?_;refine aD Kr 17 rfl ?_; intro Z7 ex Z8;obtain ⟨X,HV⟩ := aS ex X HV;refine zm [0] ?_;refine my 1 rfl (aC rfl rfl Tn.u Kr (j := 0) rfl Om) ?_;refine my 2 rfl (ah rfl Tn.u rfl (HV.cellAt (i := 0) Om)) ?_;refine zm [4] ?_;refine my 5 rfl (aC rfl rfl Tn.u Kr (j := 0) rfl Om) ?_;refine my 6 rfl (ah rfl Tn.u rfl (HV.cellAt (i := 0) Om)) ?_;refine zm [9] ?_;refine my 10 rfl (aC rfl rfl Tn.u Kr (j := 0) rfl Om) ?_;refine my 11 rfl (ah rfl Tn.u rfl (HV.cellAt (i := 0) Om)) ?_;refine zm [14] ?_;refine bC 3 rfl func187 rfl (eD a 2 _ la Om) ?_;rintro e w9 ⟨rfl, ex⟩;obtain ⟨X,HV⟩ := aS ex X HV;refine aU ?_;refine bC 7 rfl func187 rfl (eD a 13 _ la Om) ?_;rintro e w9 ⟨rfl, ex⟩;obtain ⟨X,HV⟩ := aS ex X HV;refine aU ?_;refine my 8 rfl (bO rfl rfl rfl) ?_;refine bC 12 rfl func187 rfl (eD a 22 _ la Om) ?_;rintro e w9 ⟨rfl, ex⟩;obtain ⟨X,HV⟩ := aS ex X HV;refine aU ?_;refine my 13 rfl (bO rfl rfl (ER _ _ _ (Sha.ba la Om) (Sha.ba la Om) (Sha.ba la Om))) ?_;refine my 15 rfl (Y.as (aO rfl rfl rfl) (congrArg (Value.int .u64) (show _ = ((U : Nat) : Int) from by rw [kN, Z2]; omega))) ?_;refine zm [16] ?_;refine aD Kr 30 rfl ?_; intro wd50 ex hd50;obtain ⟨X,HV⟩ := aS ex X HV;refine zm [0, 1] ?_;refine my 2 rfl (aO rfl rfl (aG (n := T + U) Om (by have : hh < 4294967296 := lh; omega))) ?_;refine my 3 rfl (cR rfl rfl Om (show (((T + U : Nat) : Int).tmod 4294967296) = (((T + U) % 4294967296 : Nat) : Int) from rfl)) ?_;refine zm [4] ?_;refine my 5 rfl (aC rfl rfl Tn.u Kr (j := 0) rfl Om) ?_;refine my 6 rfl (ah rfl Tn.u rfl (HV.cellAt (i := 0) Om)) ?_;refine zm [7] ?_;refine my 8 rfl (aC rfl rfl Tn.u Kr (j := 1) rfl Om) ?_;refine my 9 rfl (ah rfl Tn.u rfl (HV.cellAt (i := 1) Om)) ?_;refine zm [10] ?_;refine my 11 rfl (aC rfl rfl Tn.u Kr (j := 2) rfl Om) ?_;refine my 12 rfl (ah rfl Tn.u rfl (HV.cellAt (i := 2) Om)) ?_;refine zm [13] ?_;refine my 14 rfl (aC rfl rfl Tn.u Kr (j := 3) rfl Om) ?_;refine my 15 rfl (ah rfl Tn.u rfl (HV.cellAt (i := 3) Om)) ?_;refine zm [16] ?_;refine my 17 rfl (Y.as (aO rfl rfl rfl) (congrArg (Value.int .u64) (show _ = ((d + T : Nat) : Int) from by rw [kN]; show ((d : Int) + _) % _ = _; have : hh < 4294967296 := lh; have : d < 4294967296 := ld; omega))) ?_;refine my 18 rfl (cR rfl rfl Om (show (((d + T : Nat) : Int).tmod 4294967296) = (((d + T) % 4294967296 : Nat) : Int) from rfl)) ?_;refine zm [19] ?_;refine my 20 rfl (aC rfl rfl Tn.u Kr (j := 4) rfl Om) ?_;refine my 21 rfl (ah rfl Tn.u rfl (HV.cellAt (i := 4) Om)) ?_;refine zm [22] ?_;refine my 23 rfl (aC rfl rfl Tn.u Kr (j := 5) rfl Om) ?_;refine my 24 rfl (ah rfl Tn.u rfl (HV.cellAt (i := 5) Om)) ?_;refine zm [25] ?_;refine my 26 rfl (aC rfl rfl Tn.u Kr (j := 6) rfl Om) ?_;refine my 27 rfl (ah rfl Tn.u rfl (HV.cellAt (i := 6) Om)) ?_;have hzX := X.size;refine aR 28 Kr ?_; refine bE rfl (aF (z := .int .u64 0) Tn.u Kr rfl rfl rfl rfl rfl) rfl ?_;rintro _ w7 ⟨g7, rfl, B7, Zs, ex⟩;refine ⟨.inr ex, ?_⟩;replace X := X.ext ex
   have e2 : (Sha.rounds (Sha.words bl) S (t + 1)).list = [(T + U) % 4294967296, a, b, cc, (d + T) % 4294967296, e, f, gg] := by show (Sha.sH (Sha.rounds (Sha.words bl) S t) (Sha.K.getD t 0) ((Sha.words bl).getD t 0)).list = _;rw [← hQ, ← hkt, ← hwt, hT, hU]; rfl
   refine BL [29] ?_;refine au 11 ?_;refine ae ?_;refine ZW _ _ ⟨t + 1, 8, some ⟨g7, 0, none⟩, rfl, rfl, Om, X, (by rw [e2]; exact Ns.fA (B7.congr rfl) rfl), (fun o h => by injection h with h; injection h; omega)⟩ Om Ls
  obtain rfl : t = 64 := Om
  obtain ⟨m, hm⟩ : ∃ m, m = (Sha.rounds (Sha.words bl) S 64).list := ⟨_, rfl⟩
  rw [← hm] at HV;have Zn : S.list.length = m.length := by rw [hm, sv, sv]
  have h8l := sv S;have BA : ∀ i, m.getD i 0 < 4294967296 := by rw [hm]; exact Eg (Sha.gk _ hSok _)
  have okl := Eg hSok;have hfin : (Sha.blocks Sha.IV M (k + 1)).list = Sha.fP S.list m 8 := by rw [hm, ← Sha.sW, hS, hbl]; rfl
  have G9 : wr.grownBy wd (some gh) := mi.tr G (mi.JR (F.tr X) gh);have Zw := Za.ext (F.tr X)
  obtain ⟨l, hl⟩ : ∃ l, l = S.list := ⟨_, rfl⟩
  rw [← hl] at Zw okl h8l Zn hfin;refine aU ?_;refine aE (fun n' L wg => ∃ i : Nat, L = [(2, .slice (some ⟨gK, oK, none⟩) 64 c2), (7, .slice (cf gh) 8 ch), (8, .slice (cf gM) nM c6), (13, .int .i64 ((64 * k : Nat) : Int)), (20, .slice Y0 8 YX), (28, .int .i64 (i : Int))] ∧ n' = 8 - i ∧ (i ≤ 8 ∧ wd.grownBy wg (some gh) ∧ Row wg w.heap.size 38 (cf gh) 8 ch ((Sha.fP l m i).map (iv .u64)))) _ _ ⟨0, rfl, rfl, Om, World.grownBy.refl _ _, (by rw [Sha.nB]; exact Zw)⟩ Ls ?_;rintro _ n' L wg ⟨i, rfl, rfl, hi, CG, Rg⟩ hL9;refine aa1 (fun Zo => ?_) (fun Zo => ?_)
  ·refine aU ?_;obtain ⟨Ze, Zf, _, rfl, _⟩ := HV.cell (i := 0) Om;have HVg := HV.JL CG hfar
   obtain ⟨p, hp⟩ : ∃ p, p = l.getD i 0 := ⟨_, rfl⟩
   obtain ⟨q, hq⟩ : ∃ q, q = m.getD i 0 := ⟨_, rfl⟩
   have lp : p < 4294967296 := by rw [hp]; exact okl _
   have lq : q < 4294967296 := by rw [hq]; exact BA _
   have hgp : (Sha.fP l m i).getD i 0 = p := by rw [Sha.po Zn Om, hp]
   refine aD Kr 14 rfl ?_; intro wd54 ex hd54;replace HVg := HVg.ext ex; replace Rg := Rg.ext ex; replace CG := mi.tr CG (mi.JR ex gh);refine zm [0, 1, 2, 3, 4] ?_;refine my 5 rfl (ah rfl Tn.u rfl (show _ = some (.int .u64 ((p : Nat) : Int)) from by rw [← hgp]; exact (Ns.oM Rg).cellAt Om)) ?_;refine zm [6, 7, 8] ?_;refine my 9 rfl (ah rfl Tn.u rfl (show _ = some (.int .u64 ((q : Nat) : Int)) from by rw [hq]; exact HVg.cellAt Om)) ?_;refine dF 10 rfl (fun _ => aO rfl rfl (aG (n := p + q) Om Om)) ?_;refine dF 11 rfl (fun _ => cR rfl rfl Om (show (((p + q : Nat) : Int).tmod 4294967296) = (((p + q) % 4294967296 : Nat) : Int) from rfl)) ?_;refine zm [12] ?_;refine aR 13 Kr ?_; refine bE rfl (kl rfl rfl rfl Kr Rg Om) rfl ?_;rintro _ _ ⟨rfl, Zx, cg⟩;refine ⟨.inl rfl, ?_⟩;have CG2 := mi.tr CG cg; have hset : ((Sha.fP l m i).map (iv .u64)).set i (.int .u64 (((p + q) % 4294967296 : Nat) : Int)) = (Sha.fP l m (i + 1)).map (iv .u64) := by rw [← Sha.qn Zn Om, ← hp, ← hq, List.map_set]; rfl
   rw [hset] at Zx;refine au 9 ?_;refine ae ?_;refine hL9 _ _ ⟨i + 1, rfl, rfl, Om, CG2, Zx⟩ Om Ls
  obtain rfl : i = 8 := Om
  refine au 8 ?_;refine ak (aO rfl rfl (bk (n := 64 * (k + 1)) Om Om)) ?_;refine au 2 ?_;refine ae ?_;refine ZJ _ _ ⟨k + 1, rfl, rfl, Om, mi.tr G9 CG, (by rw [hfin]; exact Rg)⟩ Om Ls
 have hkM : nM = 64 * k := Om
 obtain ⟨S, hS⟩ : ∃ s, s = Sha.blocks Sha.IV M k := ⟨_, rfl⟩
 rw [← hS] at Za;have hsum : Sha.sum xs = S.bytes := by unfold Sha.sum; rw [hxl, ← hM, hMl, hkM, Nat.mul_div_cancel_left _ Om, hS]
 have hSl := Sha.lN S;have hSok : S.ok := by rw [hS]; exact Sha.gW Sha.rD _ _
 have Ea : Ext w wa := Ew.aw G Om;have Hh := Ns.oM Za;refine aU ?_;refine aE (fun n' L wo => ∃ (i Zh : Nat) (Zi : Oa), L = [(7, .slice (cf gh) 8 ch), (29, .slice Zi (4 * i) Zh), (30, .int .i64 (i : Int))] ∧ n' = 8 - i ∧ (i ≤ 8 ∧ Ext wa wo ∧ Row wo wa.heap.size 5 Zi (4 * i) Zh ((S.bytes.take (4 * i)).map bv))) _ _ ⟨0, 0, none, rfl, rfl, Om, Ext.refl _, Row.empty _ _ _⟩ Ls ?_;rintro _ n' L wo ⟨i, Zh, Zi, rfl, rfl, hi, F, R⟩ Zp;refine aa1 (fun Zq => ?_) (fun Zq => ?_)
 ·refine aU ?_
  obtain ⟨x, hx⟩ : ∃ x, x = S.list.getD i 0 := ⟨_, rfl⟩
  have hxw : x < 4294967296 := by rw [hx]; exact Eg hSok _
  have Hx := Hh.wk F;refine aD Kr 30 rfl ?_; intro wd59 ex hd59;obtain ⟨F,R,Hx⟩ := bh ex F R Hx;refine zm [0, 1, 2, 3] ?_;refine my 4 rfl (ah rfl Tn.u rfl (show _ = some (.int .u64 ((x : Nat) : Int)) from by rw [hx]; exact Hx.cellAt Om)) ?_;refine dF 5 rfl (fun _ => dI rfl rfl Om (show IntKind.u64.wrap ((x : Int).tdiv 16777216) = ((x / 16777216 : Nat) : Int) from aG rfl Om)) ?_;refine my 6 rfl (bc rfl Tn.u Tn.u (YP _)) ?_;refine zm [7, 8, 9] ?_;refine my 10 rfl (ah rfl Tn.u rfl (show _ = some (.int .u64 ((x : Nat) : Int)) from by rw [hx]; exact Hx.cellAt Om)) ?_;refine dF 11 rfl (fun _ => dI rfl rfl Om (show IntKind.u64.wrap ((x : Int).tdiv 65536) = ((x / 65536 : Nat) : Int) from aG rfl Om)) ?_;refine dF 12 rfl (fun _ => cR rfl rfl Om (show (((x / 65536 : Nat) : Int).tmod 256) = ((x / 65536 % 256 : Nat) : Int) from rfl)) ?_;refine my 13 rfl (bc rfl Tn.u Tn.u (VK _)) ?_;refine zm [14, 15, 16] ?_;refine my 17 rfl (ah rfl Tn.u rfl (show _ = some (.int .u64 ((x : Nat) : Int)) from by rw [hx]; exact Hx.cellAt Om)) ?_;refine dF 18 rfl (fun _ => dI rfl rfl Om (show IntKind.u64.wrap ((x : Int).tdiv 256) = ((x / 256 : Nat) : Int) from aG rfl Om)) ?_;refine dF 19 rfl (fun _ => cR rfl rfl Om (show (((x / 256 : Nat) : Int).tmod 256) = ((x / 256 % 256 : Nat) : Int) from rfl)) ?_;refine my 20 rfl (bc rfl Tn.u Tn.u (VK _)) ?_;refine zm [21, 22, 23] ?_;refine my 24 rfl (ah rfl Tn.u rfl (show _ = some (.int .u64 ((x : Nat) : Int)) from by rw [hx]; exact Hx.cellAt Om)) ?_;refine dF 25 rfl (fun _ => cR rfl rfl Om (show ((x : Int).tmod 256) = ((x % 256 : Nat) : Int) from rfl)) ?_;refine my 26 rfl (bc rfl Tn.u Tn.u (VK _)) ?_;refine aR 27 Kr ?_; refine bE rfl (aF (z := .int .u8 0) Tn.u Kr rfl rfl rfl rfl rfl) rfl ?_;rintro _ w5 ⟨g5, rfl, B5, Zb, ex⟩;refine ⟨.inr ex, ?_⟩;have F5 := F.ext ex; have R5 := R.ext ex;refine aR 28 Kr ?_; refine bE rfl (aT rfl rfl bV R5 (At.fA (vs := (Sha.uV x).map bv) (B5.congr rfl)) rfl aJ Om Om F5.size) rfl ?_;rintro _ w6 ⟨A7, c7, rfl, R6, be, gr, hl⟩;refine ⟨.inl rfl, ?_⟩;have F6 := F5.trans be; replace R6 := R6.cat; rw [hx, UW _ _ Om] at R6;refine BL [29] ?_;refine au 11 ?_;refine ae ?_;refine Zp _ _ ⟨i + 1, c7, A7, rfl, rfl, Om, F6, R6⟩ Om Ls
 refine aU ?_;refine aa4 rfl ?_;obtain rfl : i = 8 := Om
 exact ⟨Zi, Zh, rfl, by rw [hsum]; rw [List.take_of_length_le Om] at R; exact Row.lower R Ea.size, Ea.tr F⟩
theorem Yi : bits .and .u64 (IntKind.u64.wrap (-7)) 31 = 25 := by decide +kernel
theorem VZ : bits .and .u64 (IntKind.u64.wrap (-18)) 31 = 14 := by decide +kernel
theorem XR : bits .and .u64 (IntKind.u64.wrap (-17)) 31 = 15 := by decide +kernel
theorem WT : bits .and .u64 (IntKind.u64.wrap (-19)) 31 = 13 := by decide +kernel
theorem Yn : bits .and .u64 (IntKind.u64.wrap (-6)) 31 = 26 := by decide +kernel
theorem Wr : bits .and .u64 (IntKind.u64.wrap (-11)) 31 = 21 := by decide +kernel
theorem Wm : bits .and .u64 (IntKind.u64.wrap (-25)) 31 = 7 := by decide +kernel
theorem Yl : bits .and .u64 (IntKind.u64.wrap (-2)) 31 = 30 := by decide +kernel
theorem Wf : bits .and .u64 (IntKind.u64.wrap (-13)) 31 = 19 := by decide +kernel
theorem Xc : bits .and .u64 (IntKind.u64.wrap (-22)) 31 = 10 := by decide +kernel
theorem OL (x n : Nat) (hx : x < 4294967296) (hn : n ≤ 32) (p q : Int) (hp : p = ((x * 2 ^ (32 - n) % 4294967296 : Nat) : Int)) (hq : q = ((x / 2 ^ n : Nat) : Int)) :
  Ending.returned (.int .u32 (bits .or .u32 p q)) = .returned (.int .u32 (Sha.cP x n : Nat)) := by
 subst hp; subst hq;rw [u32_or_nat _ _ (Nat.mod_lt _ Om) (Nat.lt_of_le_of_lt (Nat.div_le_self _ _) hx), Sha.ye hx hn]
theorem ke (x : Nat) (n : Int) (w : aa9) (hx : x < 4294967296) (hn : n = 7 ∨ n = 18 ∨ n = 17 ∨ n = 19 ∨ n = 6 ∨ n = 11 ∨ n = 25 ∨ n = 2 ∨ n = 13 ∨ n = 22) :
  Calls Tryz.prog 266 #[.int .u32 x, .int .i64 n] w fun e w' => e = .returned (.int .u32 (Sha.cP x n.toNat : Nat)) ∧ w = w' := by
 have h7 := Yi; have YU := VZ; have YV := XR; have YW := WT; have h6 := Yn;have YX := Wr; have YY := Wm; have h2 := Yl; have YZ := Wf; have Y0 := Xc;rcases hn with rfl | rfl | rfl | rfl | rfl | rfl | rfl | rfl | rfl | rfl
 all_goals
  go_enter func266, ntmps266
  go_wp2
  go_ret
  exact ⟨OL x _ hx (by decide) _ _ (by simp) (by simp), rfl⟩
theorem Vc : (Tryz.prog.info? 305).map (fun i => i.zero.map (·.cells)) = some (some (aM .u32 (me 64))) := by kernel_rfl
theorem z8 : (Tryz.prog.info? 284).map (fun i => i.zero.map (·.cells)) = some (some (aM .u32 (me 8))) := by kernel_rfl
theorem S6 : (Tryz.prog.info? 305).map (·.size) = some 64 := by kernel_rfl
theorem s8 : (Tryz.prog.info? 284).map (·.size) = some 8 := by kernel_rfl
set_option maxRecDepth 100000 in
theorem IY (w : aa9) : Calls Tryz.prog 265 #[] w fun e w' => e = .returned (.agg (aM .u32 Sha.K)) ∧ Below w.heap.size w w' := by go_enter func265, ntmps265;go_wp2_with (first | refine dY rfl _ rfl _ Vc w.heap.size rfl ?_ | refine wG rfl _ _ rfl (aM .u32 Sha.K) Kr ?_ | refine eY rfl _ _ _ rfl w.heap.size (aM .u32 Sha.K) rfl rfl _ _ (aq.new w _ _) 64 S6 rfl rfl (cZ _ _) ?_);exact sD rfl w.heap.size _ _ _ rfl ((aq.new w _ _).row _) underlying305 rfl 64 S6 rfl rfl ⟨rfl, iu ((Below.refl _ _).alloc (Nat.le_refl _) _) (Nat.le_refl _) _⟩
theorem Iy (w : aa9) : Calls Tryz.prog 246 #[] w fun e w' => e = .returned (.agg (aM .u32 Sha.H0)) ∧ Below w.heap.size w w' := by go_enter func246, ntmps246;go_wp2_with (first | refine dY rfl _ rfl _ z8 w.heap.size rfl ?_ | refine wG rfl _ _ rfl (aM .u32 Sha.H0) Kr ?_ | refine eY rfl _ _ _ rfl w.heap.size (aM .u32 Sha.H0) rfl rfl _ _ (aq.new w _ _) 8 s8 rfl rfl (cZ _ _) ?_);exact sD rfl w.heap.size _ _ _ rfl ((aq.new w _ _).row _) underlying284 rfl 8 s8 rfl rfl ⟨rfl, iu ((Below.refl _ _).alloc (Nat.le_refl _) _) (Nat.le_refl _) _⟩
theorem VG (a b c d : UInt8) : bits .or .u32 (bits .or .u32 (bits .or .u32 ((a.toNat : Int) % 4294967296 * 16777216 % 4294967296) ((b.toNat : Int) % 4294967296 * 65536 % 4294967296)) ((c.toNat : Int) % 4294967296 * 256 % 4294967296)) ((d.toNat : Int) % 4294967296) =
  ((a.toNat * 16777216 + b.toNat * 65536 + c.toNat * 256 + d.toNat : Nat) : Int) := by
 have ha := a.toNat_lt; have hb := b.toNat_lt; have hc := c.toNat_lt; have hd := d.toNat_lt
 generalize a.toNat = a at *; generalize b.toNat = b at *; generalize c.toNat = c at *; generalize d.toNat = d at *
 have e1 : (a : Int) % 4294967296 * 16777216 % 4294967296 = ((a * 16777216 : Nat) : Int) := Om
 have e2 : (b : Int) % 4294967296 * 65536 % 4294967296 = ((b * 65536 : Nat) : Int) := Om
 have e3 : (c : Int) % 4294967296 * 256 % 4294967296 = ((c * 256 : Nat) : Int) := Om
 have e4 : (d : Int) % 4294967296 = (d : Int) := Om
 rw [e1, e2, e3, e4, u32_or_nat _ _ Om Om, nat_join 24 _ _ Om Om, u32_or_nat _ _ Om Om, nat_join 16 _ _ Om Om, u32_or_nat _ _ Om Om, nat_join 8 _ _ Om Om]
theorem Mx (a b c : Nat) (ha : a < 4294967296) (hb : b < 4294967296) (hc : c < 4294967296) : bits .xor .u32 (bits .xor .u32 (a : Int) (b : Int)) (c : Int) = (((a ^^^ b) ^^^ c : Nat) : Int) := by rw [u32_xor_nat _ _ ha hb, u32_xor_nat _ _ (Sha.iV ha hb) hc]
set_option maxRecDepth 100000 in
theorem IB (A : Oa) (c : Nat) (xs : Lb) (w : aa9) (ha : Bs w A 64 xs) :
   Calls Tryz.prog 264 #[.slice A 64 c] w fun e w' => e = .returned (.agg (aM .u32 (Sha.words xs))) ∧ Below w.heap.size w w' := by
  go_enter func264, ntmps264;go_wp2_with (first | refine dY rfl _ rfl _ Vc w.heap.size rfl ?_ | refine dY rfl _ rfl _ Vc (w.heap.size + 1) (by simp) ?_);go_loopw [4, 10] (fun _ i wr => ∃ k : Nat, k ≤ 16 ∧ i = .int .i64 k ∧ Below w.heap.size w wr ∧ aq wr w.heap.size 305 (aM .u32 (me 64)) ∧ aq wr (w.heap.size + 1) 305 (aM .u32 (Sha.gT xs k ++ me (64 - k)))) (fun _ i _ => 16 - (intOf i).toNat);case atStart => exact ⟨0, Om, rfl, ((Below.refl _ _).alloc (Nat.le_refl _) _).alloc (by simp) _, (aq.new w _ _).alloc _, by have := aq.new (w.alloc (.cells (aM .u32 (me 64)) 305)) 305 (aM .u32 (me 64)); rw [World.size_alloc] at this; exact this⟩
  case round =>
    obtain ⟨k, hk, rfl, hbw, Zd, Ze⟩ := hrel
    have Y2 := Lib.hid Zd
    have YV := Lib.hid Ze
    have HW := Lib.hid hbw
    clear Zd Ze hbw
    by_cases hlt : k < 16
    · have YW := ha.below HW.out
      obtain ⟨b, off, x0, rfl, Zf, ZB⟩ := YW.byte (k := 4 * k) Om
      obtain ⟨x1, Zg, ZC⟩ := YW.yb (k := 4 * k + 1) Om
      obtain ⟨x2, Zh, ZD⟩ := YW.yb (k := 4 * k + 2) Om
      obtain ⟨x3, Zi, ZE⟩ := YW.yb (k := 4 * k + 3) Om
      clear YW
      have hcc : wr.cell? ⟨w.heap.size + 1, k, none⟩ = some (.int .u32 0) := by rw [YV.out.cell]; exact vE _ _ _ _ (by rw [Sha.dt]) Om
      have hff := YV.out.frozen k
      have ZF : IntKind.i64.wrap (4 * (k : Int)) = 4 * (k : Int) := IntWalk.i64_in _ Om
      have ZG : 0 ≤ 4 * (k : Int) := Om
      have ZH : 4 * (k : Int) < 64 := Om
      have ZI : (4 * (k : Int)).toNat = 4 * k := Om
      have Zn : IntKind.i64.wrap (4 * (k : Int) + 1) = 4 * (k : Int) + 1 := IntWalk.i64_in _ Om
      have Zo : 0 ≤ 4 * (k : Int) + 1 := Om
      have Zp : 4 * (k : Int) + 1 < 64 := Om
      have Zq : (4 * (k : Int) + 1).toNat = 4 * k + 1 := Om
      have Zr : IntKind.i64.wrap (4 * (k : Int) + 2) = 4 * (k : Int) + 2 := IntWalk.i64_in _ Om
      have Zs : 0 ≤ 4 * (k : Int) + 2 := Om
      have Zt : 4 * (k : Int) + 2 < 64 := Om
      have Zu : (4 * (k : Int) + 2).toNat = 4 * k + 2 := Om
      have Zv : IntKind.i64.wrap (4 * (k : Int) + 3) = 4 * (k : Int) + 3 := IntWalk.i64_in _ Om
      have Zw : 0 ≤ 4 * (k : Int) + 3 := Om
      have Zx : 4 * (k : Int) + 3 < 64 := Om
      have Zy : (4 * (k : Int) + 3).toNat = 4 * k + 3 := Om
      have Zz : (k : Int) < 64 := Om
      go_wp2_with fail
      go_still_tail 35, Kr
      change wpList _ _ _ _ _ wr.drew
      go_wp2
      go_roundw
      case rel =>
        rw [VG]
        refine ⟨k + 1, Om, by go_num, (HW.out.drew).setCell (by simp) _, Y2.out.Fq (by simp) _, ?_⟩
        have h := YV.out.set k (.int .u32 ((x0.toNat * 16777216 + x1.toNat * 65536 + x2.toNat * 256 + x3.toNat : Nat) : Int))
        rw [BW _ _ _ (64 - (k + 1)) _ _ (by rw [Sha.dt]) Om] at h
        rw [Zf.out, Zg.out, Zh.out, Zi.out] at h
        rw [Zf.out, Zg.out, Zh.out, Zi.out]
        exact h
      case measure => simp [intOf]; omega
    have YX : aq wr (w.heap.size + 1) 305 (aM .u32 (Sha.gT xs 16 ++ me 48)) := by have h := YV.out;grind
    have YY := Lib.hid YX
    clear YX YV
    go_wp2
    obtain ⟨wo, rfl⟩ : ∃ wo : World, wo = wr := ⟨_, rfl⟩
    go_loopw [5, 6, 7, 8, 9] (fun i _ _ _ _ wx => ∃ t : Nat, 16 ≤ t ∧ t ≤ 64 ∧ i = .int .i64 t ∧ Below w.heap.size w wx ∧ aq wx w.heap.size 305 (aM .u32 (me 64)) ∧ aq wx (w.heap.size + 1) 305 (aM .u32 (Sha.ext (Sha.gT xs 16) (t - 16) ++ me (64 - t)))) (fun i _ _ _ _ _ => 64 - (intOf i).toNat)
    case atStart => exact ⟨16, Om, Om, rfl, HW.out, Y2.out, YY.out⟩
    case round =>
      obtain ⟨t, ZJ, ZK, rfl, hbx, Zj, Zk⟩ := hrel
      have Y0 := Lib.hid Zj
      have YZ := Lib.hid Zk
      have HX := Lib.hid hbx
      clear Zj Zk hbx Y2 YY HW
      by_cases hlt : t < 64
      · have hlen : (Sha.ext (Sha.gT xs 16) (t - 16)).length = t := by rw [Sha.fV, Sha.dt]; omega
        have hltA := Sha.oC (Sha.gT xs 16) (Sha.oX xs 16) (t - 16)
        obtain ⟨q1, Y3⟩ : ∃ q, Hid (q = (Sha.ext (Sha.gT xs 16) (t - 16)).getD (t - 15) 0) := ⟨_, rfl⟩
        obtain ⟨q2, Za⟩ : ∃ q, Hid (q = (Sha.ext (Sha.gT xs 16) (t - 16)).getD (t - 2) 0) := ⟨_, rfl⟩
        obtain ⟨q3, Zl⟩ : ∃ q, Hid (q = (Sha.ext (Sha.gT xs 16) (t - 16)).getD (t - 7) 0) := ⟨_, rfl⟩
        obtain ⟨q4, Zm⟩ : ∃ q, Hid (q = (Sha.ext (Sha.gT xs 16) (t - 16)).getD (t - 16) 0) := ⟨_, rfl⟩
        have l1 : q1 < 4294967296 := by rw [Y3.out]; exact Sha.fJ hltA _
        have l2 : q2 < 4294967296 := by rw [Za.out]; exact Sha.fJ hltA _
        have c1 : wr.cell? ⟨w.heap.size + 1, t - 15, none⟩ = some (.int .u32 q1) := by rw [YZ.out.cell, Y3.out]; exact pS _ _ _ _ Om
        have c2 : wr.cell? ⟨w.heap.size + 1, t - 2, none⟩ = some (.int .u32 q2) := by rw [YZ.out.cell, Za.out]; exact pS _ _ _ _ Om
        have HL := Lib.hid hlen
        clear hlen hltA
        have Zn : IntKind.i64.wrap ((t : Int) - 15) = (t : Int) - 15 := bj Om Om; have Zo : (15 : Int) ≤ (t : Int) := Om; have Zp : (t : Int) - 15 < 64 := Om; have Zq : ((t : Int) - 15).toNat = t - 15 := Om
        have Zr : IntKind.i64.wrap ((t : Int) - 2) = (t : Int) - 2 := bj Om Om; have Zs : (2 : Int) ≤ (t : Int) := Om; have Zt : (t : Int) - 2 < 64 := Om; have Zu : ((t : Int) - 2).toNat = t - 2 := Om
        have Zv : IntKind.i64.wrap ((t : Int) - 7) = (t : Int) - 7 := bj Om Om; have Zw : (7 : Int) ≤ (t : Int) := Om; have Zx : (t : Int) - 7 < 64 := Om; have Zy : ((t : Int) - 7).toNat = t - 7 := Om
        have ZL : IntKind.i64.wrap ((t : Int) - 16) = (t : Int) - 16 := bj Om Om; have ZM : (16 : Int) ≤ (t : Int) := Om; have Zz : (t : Int) - 16 < 64 := Om; have ZN : ((t : Int) - 16).toNat = t - 16 := Om
        have ZO : (t : Int) < 64 := Om
        go_wp2_with fail
        go_quiet (fail)
        clear c1 c2
        have Zb : Hid (aq (wr.drewN nq) w.heap.size 305 (aM .u32 (me 64))) := Y0.out
        have YU : Hid (aq (wr.drewN nq) (w.heap.size + 1) 305 (aM .u32 (Sha.ext (Sha.gT xs 16) (t - 16) ++ me (64 - t)))) := YZ.out
        have ZA : Hid (Below w.heap.size w (wr.drewN nq)) := nA HX.out nq
        generalize wr.drewN nq = wy at *
        clear Y0 YZ HX
        have c3 : wy.cell? ⟨w.heap.size + 1, t - 7, none⟩ = some (.int .u32 q3) := by rw [YU.out.cell, Zl.out]; exact pS _ _ _ _ (by rw [HL.out]; omega)
        have c4 : wy.cell? ⟨w.heap.size + 1, t - 16, none⟩ = some (.int .u32 q4) := by rw [YU.out.cell, Zm.out]; exact pS _ _ _ _ (by rw [HL.out]; omega)
        have c5 : wy.cell? ⟨w.heap.size + 1, t, none⟩ = some (.int .u32 0) := by rw [YU.out.cell]; exact vE _ _ _ _ HL.out.symm Om
        have c6 := YU.out.frozen t
        go_wp2_with (go_at_call 266; refine (ke _ _ _ (by assumption) Om).mono ?_; rintro e w' ⟨rfl, rfl⟩)
        have e1 : bits .xor .u32 (bits .xor .u32 ((Sha.cP q1 7 : Nat) : Int) ((Sha.cP q1 18 : Nat) : Int)) ((q1 : Int) / 8) = ((Sha.s0 q1 : Nat) : Int) := Mx _ _ (q1 / 8) (Sha.ba l1 Om) (Sha.ba l1 Om) Om
        have e2 : bits .xor .u32 (bits .xor .u32 ((Sha.cP q2 17 : Nat) : Int) ((Sha.cP q2 19 : Nat) : Int)) ((q2 : Int) / 1024) = ((Sha.s1 q2 : Nat) : Int) := Mx _ _ (q2 / 1024) (Sha.ba l2 Om) (Sha.ba l2 Om) Om
        simp only [e1, e2]
        clear e1 e2
        go_still_tail 15, Kr
        change wpList _ _ _ _ _ wy.drew
        go_wp2
        go_roundw
        case rel =>
          refine ⟨t + 1, Om, Om, by go_num, (ZA.out.drew).setCell (by simp) _, Zb.out.Fq (by simp) _, ?_⟩
          rw [show t + 1 - 16 = t - 16 + 1 from Om]
          refine aq.fill (w := wy.drew) YU.out HL.out.symm Om (xm ?_)
          have e : Sha.gE (Sha.ext (Sha.gT xs 16) (t - 16)) (t - 16) = (Sha.s1 q2 + q3 + Sha.s0 q1 + q4) % 4294967296 := by unfold Sha.gE;rw [Y3.out, Za.out, Zl.out, Zm.out, show t - 16 + 14 = t - 2 from Om, show t - 16 + 9 = t - 7 from Om, show t - 16 + 1 = t - 15 from Om]
          omega
        case measure => simp [intOf]; omega
      have Zc : aq wr (w.heap.size + 1) 305 (aM .u32 (Sha.words xs)) := by have h := YZ.out;rw [show t = 64 from Om] at h;rw [show Sha.ext (Sha.gT xs 16) (64 - 16) ++ me (64 - 64) = Sha.words xs from List.append_nil _] at h;exact h
      go_wp2_with (first | refine pM rfl _ _ rfl (w.heap.size + 1) rfl _ _ _ Zc underlying305 rfl 64 S6 (by rw [bf, Sha.cH]) ?_ | refine eY rfl _ _ _ rfl w.heap.size (aM .u32 (Sha.words xs)) rfl rfl _ _ Y0.out 64 S6 (by rw [bf, Sha.cH]) rfl (cZ _ _) ?_)
      exact sD rfl w.heap.size _ _ _ rfl (Y0.out.row _) underlying305 rfl 64 S6 (by rw [bf, Sha.cH]) rfl ⟨rfl, iu HX.out (Nat.le_refl _) _⟩
theorem UY : (Tryz.prog.info? 227).map (·.size) = some 1 := by kernel_rfl
theorem OW (e f g : Nat) (he : e < 4294967296) (hf : f < 4294967296) (hg : g < 4294967296) :
  bits .xor .u32 (bits .and .u32 (e : Int) (f : Int)) (bits .and .u32 (bits .xor .u32 IntKind.u32.max (e : Int)) (g : Int)) = ((Sha.ch e f g : Nat) : Int) := by
 have h1 : bits .xor .u32 IntKind.u32.max (e : Int) = ((4294967295 - e : Nat) : Int) := by
  show bits .xor .u32 ((4294967295 : Nat) : Int) (e : Int) = _;rw [u32_xor_nat _ _ Om he];congr 1;apply Nat.eq_of_testBit_eq;intro i;have h1 := Nat.testBit_two_pow_sub_succ (n := 32) he i;have h2 := Nat.testBit_two_pow_sub_one 32 i;rw [show (2 : Nat) ^ 32 - (e + 1) = 4294967295 - e from Om] at h1;rw [show (2 : Nat) ^ 32 - 1 = 4294967295 from rfl] at h2;rw [Nat.testBit_xor, h1, h2];by_cases hi : i < 32
  ·simp [hi]
  have : e.testBit i = false := Nat.testBit_lt_two_pow (Nat.lt_of_lt_of_le he (Nat.pow_le_pow_right (n := 2) Om (by omega : 32 ≤ i)));simp [hi, this]
 rw [h1, u32_and_nat _ _ he hf, u32_and_nat _ _ Om hg, u32_xor_nat _ _ (Sha.fz he) (Sha.fz Om)];rfl
theorem My (a b c : Nat) (ha : a < 4294967296) (hb : b < 4294967296) (hc : c < 4294967296) :
  bits .xor .u32 (bits .xor .u32 (bits .and .u32 (a : Int) (b : Int)) (bits .and .u32 (a : Int) (c : Int))) (bits .and .u32 (b : Int) (c : Int)) = ((Sha.yu a b c : Nat) : Int) := by
 rw [u32_and_nat _ _ ha hb, u32_and_nat _ _ ha hc, u32_and_nat _ _ hb hc, Mx _ _ _ (Sha.fz ha) (Sha.fz ha) (Sha.fz hb)];rfl
theorem PH {e h kt wt : Nat} {x y : Int} (hb : aq w g' t (aM .u32 [a, a, b, c, d, e, f, g])) (hx : x = (((d + Sha.T1 ⟨a, b, c, d, e, f, g, h⟩ kt wt) % 4294967296 : Nat) : Int))
  (hy : y = (((Sha.T1 ⟨a, b, c, d, e, f, g, h⟩ kt wt + Sha.T2 ⟨a, b, c, d, e, f, g, h⟩) % 4294967296 : Nat) : Int)) :
  aq ((w.setCell ⟨g', 4, none⟩ (.int .u32 x)).setCell ⟨g', 0, none⟩ (.int .u32 y)) g' t (aM .u32 (Sha.sH ⟨a, b, c, d, e, f, g, h⟩ kt wt).list) := by
 subst hx; subst hy;exact (hb.set 4 _).set 0 _
theorem Nz {s : Sha.S8} (h : s.ok) (i : Nat) : s.list.getD i 0 < 4294967296 := by obtain ⟨h1, h2, h3, h4, h5, h6, h7, h8⟩ := h;refine Sha.fJ ?_ i;simp only [Sha.S8.list, List.mem_cons, List.not_mem_nil, or_false];omega
theorem zl (w : aa9) (o : Obj) (t : TypeId) (cs : Array Value) : aq ((w.alloc o).alloc (.cells cs t)) (w.heap.size + 1) t cs := by have := aq.new (w.alloc o) t cs; simp_all
theorem zg (w : aa9) (t : TypeId) (cs : Array Value) (h : w.heap.size = n) : aq (w.alloc (.cells cs t)) n t cs := by subst h; exact aq.new w t cs
set_option maxRecDepth 100000 in
theorem Mg (A : Oa) (c : Nat) (xs : Lb) (g : Nat) (s : Sha.S8) (w : aa9) (ha : Bs w A 64 xs) (hs : s.ok)
   (hg : aq w g 284 (aM .u32 s.list)) :
   Calls Tryz.prog 248 #[.pointer (cf g), .slice A 64 c] w fun e w' => e = .returned (.tuple #[]) ∧ aq w' g 284 (aM .u32 (Sha.step s xs).list) ∧ w.grownBy w' (some g) := by
  go_enter func248, ntmps248;go_wp2_with fail;refine (IB _ _ _ _ ha).mono ?_;rintro e _ ⟨rfl, YX⟩;go_wp2_with fail;refine (IY _).mono ?_;rintro e w2 ⟨rfl, YZ⟩;have hbb : Below w.heap.size w w2 := YX.trans (YZ.mono YX.size);have Zc : aq w2 g 284 (aM .u32 s.list) := hg.kept hbb;have hgl := Zc.lt;have HG := Lib.hid Zc;have HB := Lib.hid hbb;clear YX YZ Zc hbb
  go_wp2_with (first
    | refine dY rfl _ rfl _ Vc w2.heap.size rfl ?_
    | refine dY rfl _ rfl _ Vc (w2.heap.size + 1) (by simp) ?_
    | refine eY rfl _ (.tmp 4) (.tmp 14) rfl w2.heap.size (aM .u32 (Sha.words xs)) rfl rfl _ _ ((aq.new w2 _ _).alloc _) 64 S6 (by rw [bf, Sha.cH]) rfl (cZ _ _) ?_
    | (refine eY rfl _ (.tmp 5) (.tmp 15) rfl (w2.heap.size + 1) (aM .u32 Sha.K) rfl rfl _ _ ((zl w2 _ _ _).jU Om _) 64 S6 rfl rfl (cZ _ _) ?_
       obtain ⟨w3, YY⟩ : ∃ w3, w3 = (((w2.alloc (.cells (aM .u32 (me 64)) 305)).alloc (.cells (aM .u32 (me 64)) 305)).setRow w2.heap.size (aM .u32 (Sha.words xs))).setRow (w2.heap.size + 1) (aM .u32 Sha.K) := ⟨_, rfl⟩
       have q4 : aq w3 w2.heap.size 305 (aM .u32 (Sha.words xs)) := by rw [YY]; exact ((((aq.new w2 _ _).alloc _).row _).jU Om _)
       have q5 : aq w3 (w2.heap.size + 1) 305 (aM .u32 Sha.K) := by rw [YY]; exact (((zl w2 _ _ _).jU Om _).row _)
       have qg : aq w3 g 284 (aM .u32 s.list) := by rw [YY]; exact ((((HG.out.alloc _).alloc _).jU Om _).jU Om _)
       have qb : Below w2.heap.size w2 w3 := by rw [YY]; exact iu (iu (((Below.refl _ _).alloc (Nat.le_refl _) _).alloc (by simp) _) (Nat.le_refl _) _) Om _
       have qs : w3.heap.size = w2.heap.size + 2 := by simp_all
       rw [← YY]
       have Q4 := Lib.hid q4; have Q5 := Lib.hid q5; have QG := Lib.hid qg; have QB := Lib.hid qb; have QS := Lib.hid qs
       clear q4 q5 qg qb qs YY)
    | refine pM rfl _ (.tmp 17) rfl g rfl _ _ _ QG.out underlying284 rfl 8 s8 rfl ?_
    | refine dY rfl _ rfl _ z8 (w2.heap.size + 2) QS.out ?_
    | refine eY rfl _ (.tmp 6) (.tmp 18) rfl (w2.heap.size + 2) (aM .u32 s.list) rfl rfl _ _ (zg _ _ _ QS.out) 8 s8 rfl rfl (cZ _ _) ?_)
  go_loopw [7, 8, 9, 10, 11, 19] (fun _ _ _ _ _ i wr => ∃ t : Nat, t ≤ 64 ∧ i = .int .i64 t ∧ Below w2.heap.size w2 wr ∧ w2.heap.size + 3 ≤ wr.heap.size ∧ aq wr w2.heap.size 305 (aM .u32 (Sha.words xs)) ∧ aq wr (w2.heap.size + 1) 305 (aM .u32 Sha.K)
      ∧ aq wr (w2.heap.size + 2) 284 (aM .u32 (Sha.rounds (Sha.words xs) s t).list)) (fun _ _ _ _ _ i _ => 64 - (intOf i).toNat)
  case atStart => exact ⟨0, Om, rfl, iu (QB.out.alloc (by rw [QS.out]; omega) _) Om _, by simp [World.setRow, QS.out], (Q4.out.alloc _).jU Om _, (Q5.out.alloc _).jU Om _, (zg _ _ _ QS.out).row _⟩
  case round =>
    obtain ⟨t, ht, rfl, hbx, hsx, Zd, Ze, Zf⟩ := hrel
    have Y0 := Lib.hid Zd; have Y2 := Lib.hid Ze; have Y3 := Lib.hid Zf; have HX := Lib.hid hbx
    clear Zd Ze Zf hbx Q4 Q5 QB QS
    by_cases hlt : t < 64
    · obtain ⟨R, hR⟩ : ∃ R, Hid (R = Sha.rounds (Sha.words xs) s t) := ⟨_, rfl⟩
      have hok : R.ok := by rw [hR.out]; exact Sha.gk _ hs _
      obtain ⟨a, b, c', d, e, f, g', hh⟩ := R
      obtain ⟨la, lb, lc, ld, le, lf, lg, lh⟩ := hok
      obtain ⟨kt, hkt⟩ : ∃ q, Hid (q = Sha.K.getD t 0) := ⟨_, rfl⟩
      obtain ⟨wt, hwt⟩ : ∃ q, Hid (q = (Sha.words xs).getD t 0) := ⟨_, rfl⟩
      have YV : aq wr (w2.heap.size + 2) 284 (aM .u32 [a, b, c', d, e, f, g', hh]) := by have := Y3.out; rw [← hR.out] at this; exact this
      have YU := Lib.hid YV
      clear YV Y3
      have x0 : wr.cell? ⟨w2.heap.size + 2, 0, none⟩ = some (.int .u32 a) := by rw [YU.out.cell]; rfl
      have x1 : wr.cell? ⟨w2.heap.size + 2, 1, none⟩ = some (.int .u32 b) := by rw [YU.out.cell]; rfl
      have x2 : wr.cell? ⟨w2.heap.size + 2, 2, none⟩ = some (.int .u32 c') := by rw [YU.out.cell]; rfl
      have x4 : wr.cell? ⟨w2.heap.size + 2, 4, none⟩ = some (.int .u32 e) := by rw [YU.out.cell]; rfl
      have x5 : wr.cell? ⟨w2.heap.size + 2, 5, none⟩ = some (.int .u32 f) := by rw [YU.out.cell]; rfl
      have x6 : wr.cell? ⟨w2.heap.size + 2, 6, none⟩ = some (.int .u32 g') := by rw [YU.out.cell]; rfl
      have x7 : wr.cell? ⟨w2.heap.size + 2, 7, none⟩ = some (.int .u32 hh) := by rw [YU.out.cell]; rfl
      have y1 : wr.cell? ⟨w2.heap.size, t, none⟩ = some (.int .u32 wt) := by rw [Y0.out.cell, hwt.out]; exact dQ _ _ _ (by rw [Sha.cH]; omega)
      have y2 : wr.cell? ⟨w2.heap.size + 1, t, none⟩ = some (.int .u32 kt) := by rw [Y2.out.cell, hkt.out]; exact dQ _ _ _ (by show t < 64; omega)
      have Zm : (t : Int) < 64 := Om
      go_wp2_with fail
      go_quiet (fail)
      obtain ⟨n1, rfl⟩ : ∃ n : Nat, n = nq := ⟨_, rfl⟩
      go_wp2_with fail
      go_quiet ((go_at_call 266; first | exact QX (ke _ _ _ (by assumption) Om) | exact vk (ke _ _ _ (by assumption) Om)))
      obtain ⟨n2, rfl⟩ : ∃ n : Nat, n = nq := ⟨_, rfl⟩
      go_wp2_with fail
      go_quiet ((go_at_call 266; first | exact QX (ke _ _ _ (by assumption) Om) | exact vk (ke _ _ _ (by assumption) Om)))
      obtain ⟨n3, rfl⟩ : ∃ n : Nat, n = nq := ⟨_, rfl⟩
      have z1 : Hid (aq ((wr.drewN (n1 + n2)).drewN n3) w2.heap.size 305 (aM .u32 (Sha.words xs))) := Y0.out
      have z2 : Hid (aq ((wr.drewN (n1 + n2)).drewN n3) (w2.heap.size + 1) 305 (aM .u32 Sha.K)) := Y2.out
      have z3 : Hid (aq ((wr.drewN (n1 + n2)).drewN n3) (w2.heap.size + 2) 284 (aM .u32 [a, b, c', d, e, f, g', hh])) := YU.out
      have z4 : Hid (Below w2.heap.size w2 ((wr.drewN (n1 + n2)).drewN n3)) := nA (nA HX.out _) _
      have z5 : w2.heap.size + 3 ≤ ((wr.drewN (n1 + n2)).drewN n3).heap.size := hsx
      go_wp2_with fail
      generalize (wr.drewN (n1 + n2)).drewN n3 = wy at *
      clear Y0 Y2 YU HX hsx x0 x1 x2 x4 x5 x6 x7 y1 y2
      go_still_tail 2, Kr
      change wpList _ _ _ _ _ wy.drew
      refine MW rfl _ _ _ _ _ rfl (w2.heap.size + 2) 1 7 7 (some ⟨w2.heap.size + 2, 0, none⟩) 7 8 _ _ ([a, b, c', d, e, f, g'].map (iv .u32)) rfl rfl underlying309 UY z3.out (z3.out.at 0 _ (BO .u32 [a, b, c', d, e, f, g'] [hh])) rfl (Nat.le_refl 8) oN ?_
      have v3 : Hid (aq (wy.drew.setRow (w2.heap.size + 2) (aM .u32 [a, a, b, c', d, e, f, g'])) (w2.heap.size + 2) 284 (aM .u32 [a, a, b, c', d, e, f, g'])) := z3.out.row (w := wy.drew) _
      have v1 : Hid (aq (wy.drew.setRow (w2.heap.size + 2) (aM .u32 [a, a, b, c', d, e, f, g'])) w2.heap.size 305 (aM .u32 (Sha.words xs))) := z1.out.jU (w := wy.drew) Om _
      have v2 : Hid (aq (wy.drew.setRow (w2.heap.size + 2) (aM .u32 [a, a, b, c', d, e, f, g'])) (w2.heap.size + 1) 305 (aM .u32 Sha.K)) := z2.out.jU (w := wy.drew) Om _
      have v4 : Hid (Below w2.heap.size w2 (wy.drew.setRow (w2.heap.size + 2) (aM .u32 [a, a, b, c', d, e, f, g']))) := iu z4.out.drew Om _
      have v5 : w2.heap.size + 3 ≤ (wy.drew.setRow (w2.heap.size + 2) (aM .u32 [a, a, b, c', d, e, f, g'])).heap.size := by rw [size_setRow]; exact z5
      change wpList _ _ _ _ _ (wy.drew.setRow (w2.heap.size + 2) (aM .u32 [a, a, b, c', d, e, f, g']))
      generalize wy.drew.setRow (w2.heap.size + 2) (aM .u32 [a, a, b, c', d, e, f, g']) = wz at *
      clear z1 z2 z3 z4 z5
      have x4 : wz.cell? ⟨w2.heap.size + 2, 4, none⟩ = some (.int .u32 d) := by rw [v3.out.cell]; rfl
      have x0 : wz.cell? ⟨w2.heap.size + 2, 0, none⟩ = some (.int .u32 a) := by rw [v3.out.cell]; rfl
      have f4 := v3.out.frozen 4
      have f0 := v3.out.frozen 0
      go_wp2
      go_roundw
      case rel =>
        rw [Mx _ _ _ (Sha.ba le Om) (Sha.ba le Om) (Sha.ba le Om), Mx _ _ _ (Sha.ba la Om) (Sha.ba la Om) (Sha.ba la Om), OW e f g' le lf lg, My a b c' la lb lc]
        refine ⟨t + 1, Om, by go_num, (v4.out.setCell (by show _ ≤ w2.heap.size + 2; omega) _).setCell (by show _ ≤ w2.heap.size + 2; omega) _, by rw [size_setCell, size_setCell]; exact v5, (v1.out.Fq (by show _ ≠ w2.heap.size + 2; omega) _).Fq (by show _ ≠ w2.heap.size + 2; omega) _, (v2.out.Fq (by show _ ≠ w2.heap.size + 2; omega) _).Fq (by show _ ≠ w2.heap.size + 2; omega) _, ?_⟩
        have e1 : Sha.rounds (Sha.words xs) s (t + 1) = Sha.sH ⟨a, b, c', d, e, f, g', hh⟩ kt wt := by rw [hR.out, hkt.out, hwt.out]; rfl
        rw [e1]
        exact PH v3.out (by simp only [Sha.T1, Sha.S1]; omega) (by simp only [Sha.T1, Sha.T2, Sha.S1, Sha.S0]; omega)
      case measure => simp [intOf]; omega
    have YV : aq wr (w2.heap.size + 2) 284 (aM .u32 (Sha.rounds (Sha.words xs) s 64).list) := by have h := Y3.out;rw [show t = 64 from Om] at h;exact h
    have hgr : w.grownBy wr (some g) := CB (rN HB.out (Nat.le_refl _) _) HX.out
    have hgg : aq wr g 284 (aM .u32 s.list) := HG.out.kept HX.out
    have YU := Lib.hid YV; have HGR := Lib.hid hgr; have HGG := Lib.hid hgg
    clear YV Y3 hgr hgg Y0 Y2 HX QG
    go_wp2
    obtain ⟨wo, rfl⟩ : ∃ wo : World, wo = wr := ⟨_, rfl⟩
    obtain ⟨m, hm⟩ : ∃ m, Hid (m = (Sha.rounds (Sha.words xs) s 64).list) := ⟨_, rfl⟩
    obtain ⟨l, hl⟩ : ∃ l, Hid (l = s.list) := ⟨_, rfl⟩
    have Zg : m.length = 8 := by rw [hm.out]; rfl
    have Zh : l.length = 8 := by rw [hl.out]; rfl
    have okl : ∀ i, l.getD i 0 < 4294967296 := by rw [hl.out]; exact Nz hs
    have BA : ∀ i, m.getD i 0 < 4294967296 := by rw [hm.out]; exact Nz (Sha.gk _ hs _)
    have Za := Lib.hid Zg; have YW := Lib.hid Zh
    clear Zg Zh okl BA
    go_loopw [12, 93] (fun _ i wx => ∃ k : Nat, k ≤ 8 ∧ i = .int .i64 k ∧ w.grownBy wx (some g) ∧ w2.heap.size + 3 ≤ wx.heap.size ∧ aq wx g 284 (aM .u32 (Sha.fP l m k)) ∧ aq wx (w2.heap.size + 2) 284 (aM .u32 m)) (fun _ i _ => 8 - (intOf i).toNat)
    case atStart => exact ⟨0, Om, rfl, HGR.out, hsx, by rw [Sha.nB, hl.out]; exact HGG.out, by rw [hm.out]; exact YU.out⟩
    case round =>
      obtain ⟨k, hk, rfl, Zi, Zl, YX, YZ⟩ := hrel
      have Zb := Lib.hid YX; have Zj := Lib.hid YZ; have Zk := Lib.hid Zi
      clear YX YZ Zi HGR HGG YU
      by_cases hlt : k < 8
      · obtain ⟨p, hp⟩ : ∃ p, Hid (p = l.getD k 0) := ⟨_, rfl⟩
        obtain ⟨q, hq⟩ : ∃ q, Hid (q = m.getD k 0) := ⟨_, rfl⟩
        have x1 : wr.cell? ⟨g, k, none⟩ = some (.int .u32 p) := by rw [Zb.out.cell, dQ _ _ _ (by rw [Sha.mI (YW.out.trans Za.out.symm) (by rw [YW.out]; omega), YW.out]; omega), Sha.po (YW.out.trans Za.out.symm) (by rw [YW.out]; omega), hp.out]
        have x2 : wr.cell? ⟨w2.heap.size + 2, k, none⟩ = some (.int .u32 q) := by rw [Zj.out.cell, hq.out]; exact dQ _ _ _ (by rw [Za.out]; omega)
        have f1 := Zb.out.frozen k
        have Zn : (k : Int) < 8 := Om
        go_wp2_with fail
        go_still_tail 11, Kr
        change wpList _ _ _ _ _ wr.drew
        go_wp2
        go_roundw
        case rel =>
          refine ⟨k + 1, Om, by go_num, vX (Cj Zk.out) (.inl rfl) _, by show _ ≤ (World.setCell wr _ _).heap.size; rw [size_setCell]; exact Zl, ?_, Zj.out.Fq (w := wr.drew) (by show _ ≠ g; omega) _⟩
          have h := Zb.out.set (w := wr.drew) k (.int .u32 (((p + q) % 4294967296 : Nat) : Int))
          rw [gu, hp.out, hq.out, Sha.qn (YW.out.trans Za.out.symm) (by rw [YW.out]; omega)] at h
          rw [hp.out, hq.out]
          exact h
        case measure => simp [intOf]; omega
      go_wp2
      go_end0
      have h := Zb.out
      rw [show k = 8 from Om, hl.out, hm.out] at h
      exact ⟨rfl, h, Zk.out⟩
end Go.Proofs.YtgfafidlkldeaaaGreat
