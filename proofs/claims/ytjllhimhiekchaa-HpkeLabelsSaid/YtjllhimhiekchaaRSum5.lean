/- The reference's digest: the loop that makes the 64 words of a block. The block lies within the text. -/
import Derived.Test.YtjllhimhiekchaaRSum8
import Derived.Test.YtjllhimhiekchaaRSum2
import Derived.Deep.RegionLaw
namespace Go.Proofs.Ytjllhimhiekchaa
open Go.RowKit
theorem xor3_64b (a b c : Nat) (ha : a < 4294967296) (hb : b < 4294967296) (hc : c < 4294967296) : bits .xor .u64 (bits .xor .u64 (a : Int) (b : Int)) (c : Int) = (((a ^^^ b) ^^^ c : Nat) : Int) := by
  have h := Sha.xor_lt ha hb
  rw [u64_xor_nat _ _ (by omega) (by omega), u64_xor_nat _ _ (by omega) (by omega)]
theorem iv_oneCell {k : IntKind} {l : List Nat} : ∀ u ∈ l.map (iv k), u.oneCell' = true := fun u hu => iv_one u hu
set_option maxRecDepth 100000 in
set_option maxHeartbeats 2000000 in
theorem lp5 (u0 u1 u2 u3 u4 u5 u6 u7 u9 u10 u11 u12 u16 u17 u18 u19 u20 u21 u22 u23 u24 u25 u26 u27 u28 u29 u30 u31 u32 u33 u34 u35 u36 u37 u38 u39 u40 u41 u42 u43 u44 u45 u46 u47 u48 u49 u50 u51 u52 u53 u54 u55 u56 u57 u58 u59 u60 u61 u62 u63 u64 u65 u66 u67 u68 u69 u70 u71 u72 u73 u74 u75 u76 u77 u78 u79 u80 u81 u82 u83 u84 u85 u86 u87 u88 u89 u90 u91 u92 u93 u94 u95 u96 u97 u98 u99 u100 u101 u102 u103 u104 u105 u106 u107 u108 u109 u110 u111 u112 u113 u114 u115 u116 u117 u118 u119 u120 u121 u122 u123 u124 u125 u126 u127 u128 u129 u130 u131 u132 u133 u134 u135 u136 u137 u138 u139 u140 u141 u142 u143 u144 u145 u146 u147 u148 u149 u150 u151 u152 u153 u154 u155 u156 u157 u158 u159 u160 u161 u162 u163 u164 u165 u166 u167 u168 u169 u170 u171 u172 u173 u174 u175 u176 u177 u178 u179 u180 u181 u182 u183 u184 u185 u186 u187 u188 u189 u190 u191 u192 u193 u194 u195 u196 u197 u198 u199 u200 u201 u202 u203 u204 u205 u206 u207 u208 u209 u210 u211 u212 u213 u214 u215 u216 u217 u218 u219 u220 u221 u222 u223 u224 u225 u226 u227 u228 u229 u230 u231 u232 u233 u234 u235 u236 u237 u238 u239 u240 u241 u242 u243 u244 u245 u246 u247 u248 u249 u250 u251 u252 u253 u254 u255 u256 u257 u258 u259 u260 u261 u262 u263 u264 u265 u266 u267 u268 u269 u270 u271 u272 u273 u274 u275 u276 u277 u278 u279 u280 u281 u282 u283 u284 u285 u286 u287 u288 u289 u290 u291 u292 u293 u294 u295 u296 u297 u298 u299 u300 u301 u302 u303 u304 u305 u306 u307 u308 u309 u310 u311 u312 u313 u314 u315 u316 u317 u318 u319 u320 u321 u322 u323 u324 u325 u326 u327 u328 u329 u330 u331 u332 u333 u334 u335 u336 u337 u338 u339 u340 u341 u342 u343 u344 u345 u346 u347 u348 u349 u350 u351 : Value) (A8 : Option Addr) (L c8 a0 : Nat) (M : List UInt8) (w : World) (Q : Exit → Act → World → Prop)
    (hM : Bs w A8 L M) (ha : a0 + 64 ≤ L) (hL : L ≤ 70368744177664)
    (hQ : ∀ (u15 u16 u17 u18 u19 u76 u77 u78 u79 u80 u81 u82 u83 u84 u85 u86 u87 u88 u89 u90 u91 u92 u93 u94 u95 u96 u97 u98 u99 u100 u101 u102 u103 u104 u105 u106 u107 u108 u109 u110 u111 u112 u113 u114 u115 u116 u117 u118 u119 u120 u121 u122 u123 u124 u125 u126 u127 u128 u129 u130 u131 u132 u133 u134 u135 u136 u137 u138 u139 u140 u141 u142 u143 u144 u145 u146 u147 u148 u149 u150 u151 u152 u153 u154 u155 u156 u157 u158 u159 u160 u161 : Value) (A' : Option Addr) (c' : Nat) (w' : World), Below w.heap.size w w' → OwnN w' w.heap.size A' 64 c' (Sha.words ((M.drop a0).take 64)) →
      Q (.exit 8) { tmps := List.toArray (u0 :: u1 :: u2 :: u3 :: u4 :: u5 :: u6 :: u7 :: (.slice A8 L c8) :: u9 :: u10 :: u11 :: u12 :: (.int .i64 a0) :: (.slice A' 64 c') :: u15 :: u16 :: u17 :: u18 :: u19 :: u20 :: u21 :: u22 :: u23 :: u24 :: u25 :: u26 :: u27 :: u28 :: u29 :: u30 :: u31 :: u32 :: u33 :: u34 :: u35 :: u36 :: u37 :: u38 :: u39 :: u40 :: u41 :: u42 :: u43 :: u44 :: u45 :: u46 :: u47 :: u48 :: u49 :: u50 :: u51 :: u52 :: u53 :: u54 :: u55 :: u56 :: u57 :: u58 :: u59 :: u60 :: u61 :: u62 :: u63 :: u64 :: u65 :: u66 :: u67 :: u68 :: u69 :: u70 :: u71 :: u72 :: u73 :: u74 :: u75 :: u76 :: u77 :: u78 :: u79 :: u80 :: u81 :: u82 :: u83 :: u84 :: u85 :: u86 :: u87 :: u88 :: u89 :: u90 :: u91 :: u92 :: u93 :: u94 :: u95 :: u96 :: u97 :: u98 :: u99 :: u100 :: u101 :: u102 :: u103 :: u104 :: u105 :: u106 :: u107 :: u108 :: u109 :: u110 :: u111 :: u112 :: u113 :: u114 :: u115 :: u116 :: u117 :: u118 :: u119 :: u120 :: u121 :: u122 :: u123 :: u124 :: u125 :: u126 :: u127 :: u128 :: u129 :: u130 :: u131 :: u132 :: u133 :: u134 :: u135 :: u136 :: u137 :: u138 :: u139 :: u140 :: u141 :: u142 :: u143 :: u144 :: u145 :: u146 :: u147 :: u148 :: u149 :: u150 :: u151 :: u152 :: u153 :: u154 :: u155 :: u156 :: u157 :: u158 :: u159 :: u160 :: u161 :: u162 :: u163 :: u164 :: u165 :: u166 :: u167 :: u168 :: u169 :: u170 :: u171 :: u172 :: u173 :: u174 :: u175 :: u176 :: u177 :: u178 :: u179 :: u180 :: u181 :: u182 :: u183 :: u184 :: u185 :: u186 :: u187 :: u188 :: u189 :: u190 :: u191 :: u192 :: u193 :: u194 :: u195 :: u196 :: u197 :: u198 :: u199 :: u200 :: u201 :: u202 :: u203 :: u204 :: u205 :: u206 :: u207 :: u208 :: u209 :: u210 :: u211 :: u212 :: u213 :: u214 :: u215 :: u216 :: u217 :: u218 :: u219 :: u220 :: u221 :: u222 :: u223 :: u224 :: u225 :: u226 :: u227 :: u228 :: u229 :: u230 :: u231 :: u232 :: u233 :: u234 :: u235 :: u236 :: u237 :: u238 :: u239 :: u240 :: u241 :: u242 :: u243 :: u244 :: u245 :: u246 :: u247 :: u248 :: u249 :: u250 :: u251 :: u252 :: u253 :: u254 :: u255 :: u256 :: u257 :: u258 :: u259 :: u260 :: u261 :: u262 :: u263 :: u264 :: u265 :: u266 :: u267 :: u268 :: u269 :: u270 :: u271 :: u272 :: u273 :: u274 :: u275 :: u276 :: u277 :: u278 :: u279 :: u280 :: u281 :: u282 :: u283 :: u284 :: u285 :: u286 :: u287 :: u288 :: u289 :: u290 :: u291 :: u292 :: u293 :: u294 :: u295 :: u296 :: u297 :: u298 :: u299 :: u300 :: u301 :: u302 :: u303 :: u304 :: u305 :: u306 :: u307 :: u308 :: u309 :: u310 :: u311 :: u312 :: u313 :: u314 :: u315 :: u316 :: u317 :: u318 :: u319 :: u320 :: u321 :: u322 :: u323 :: u324 :: u325 :: u326 :: u327 :: u328 :: u329 :: u330 :: u331 :: u332 :: u333 :: u334 :: u335 :: u336 :: u337 :: u338 :: u339 :: u340 :: u341 :: u342 :: u343 :: u344 :: u345 :: u346 :: u347 :: u348 :: u349 :: u350 :: u351 :: []), defers := [] } w') :
    Code.wp Try.prog (nthLoop Try.f85 4) Q { tmps := List.toArray (u0 :: u1 :: u2 :: u3 :: u4 :: u5 :: u6 :: u7 :: (.slice A8 L c8) :: u9 :: u10 :: u11 :: u12 :: (.int .i64 a0) :: (.slice none 0 0) :: (.int .i64 0) :: u16 :: u17 :: u18 :: u19 :: u20 :: u21 :: u22 :: u23 :: u24 :: u25 :: u26 :: u27 :: u28 :: u29 :: u30 :: u31 :: u32 :: u33 :: u34 :: u35 :: u36 :: u37 :: u38 :: u39 :: u40 :: u41 :: u42 :: u43 :: u44 :: u45 :: u46 :: u47 :: u48 :: u49 :: u50 :: u51 :: u52 :: u53 :: u54 :: u55 :: u56 :: u57 :: u58 :: u59 :: u60 :: u61 :: u62 :: u63 :: u64 :: u65 :: u66 :: u67 :: u68 :: u69 :: u70 :: u71 :: u72 :: u73 :: u74 :: u75 :: u76 :: u77 :: u78 :: u79 :: u80 :: u81 :: u82 :: u83 :: u84 :: u85 :: u86 :: u87 :: u88 :: u89 :: u90 :: u91 :: u92 :: u93 :: u94 :: u95 :: u96 :: u97 :: u98 :: u99 :: u100 :: u101 :: u102 :: u103 :: u104 :: u105 :: u106 :: u107 :: u108 :: u109 :: u110 :: u111 :: u112 :: u113 :: u114 :: u115 :: u116 :: u117 :: u118 :: u119 :: u120 :: u121 :: u122 :: u123 :: u124 :: u125 :: u126 :: u127 :: u128 :: u129 :: u130 :: u131 :: u132 :: u133 :: u134 :: u135 :: u136 :: u137 :: u138 :: u139 :: u140 :: u141 :: u142 :: u143 :: u144 :: u145 :: u146 :: u147 :: u148 :: u149 :: u150 :: u151 :: u152 :: u153 :: u154 :: u155 :: u156 :: u157 :: u158 :: u159 :: u160 :: u161 :: u162 :: u163 :: u164 :: u165 :: u166 :: u167 :: u168 :: u169 :: u170 :: u171 :: u172 :: u173 :: u174 :: u175 :: u176 :: u177 :: u178 :: u179 :: u180 :: u181 :: u182 :: u183 :: u184 :: u185 :: u186 :: u187 :: u188 :: u189 :: u190 :: u191 :: u192 :: u193 :: u194 :: u195 :: u196 :: u197 :: u198 :: u199 :: u200 :: u201 :: u202 :: u203 :: u204 :: u205 :: u206 :: u207 :: u208 :: u209 :: u210 :: u211 :: u212 :: u213 :: u214 :: u215 :: u216 :: u217 :: u218 :: u219 :: u220 :: u221 :: u222 :: u223 :: u224 :: u225 :: u226 :: u227 :: u228 :: u229 :: u230 :: u231 :: u232 :: u233 :: u234 :: u235 :: u236 :: u237 :: u238 :: u239 :: u240 :: u241 :: u242 :: u243 :: u244 :: u245 :: u246 :: u247 :: u248 :: u249 :: u250 :: u251 :: u252 :: u253 :: u254 :: u255 :: u256 :: u257 :: u258 :: u259 :: u260 :: u261 :: u262 :: u263 :: u264 :: u265 :: u266 :: u267 :: u268 :: u269 :: u270 :: u271 :: u272 :: u273 :: u274 :: u275 :: u276 :: u277 :: u278 :: u279 :: u280 :: u281 :: u282 :: u283 :: u284 :: u285 :: u286 :: u287 :: u288 :: u289 :: u290 :: u291 :: u292 :: u293 :: u294 :: u295 :: u296 :: u297 :: u298 :: u299 :: u300 :: u301 :: u302 :: u303 :: u304 :: u305 :: u306 :: u307 :: u308 :: u309 :: u310 :: u311 :: u312 :: u313 :: u314 :: u315 :: u316 :: u317 :: u318 :: u319 :: u320 :: u321 :: u322 :: u323 :: u324 :: u325 :: u326 :: u327 :: u328 :: u329 :: u330 :: u331 :: u332 :: u333 :: u334 :: u335 :: u336 :: u337 :: u338 :: u339 :: u340 :: u341 :: u342 :: u343 :: u344 :: u345 :: u346 :: u347 :: u348 :: u349 :: u350 :: u351 :: []), defers := [] } w := by
  have HQ := Lib.hid hQ; have HM := Lib.hid hM
  clear hQ hM
  obtain ⟨l, hl⟩ : ∃ l, Hid (l = (M.drop a0).take 64) := ⟨_, rfl⟩
  conv => arg 2; whnf
  go_loopw [14, 15] (fun v i wr => ∃ (t : Nat) (A' : Option Addr) (c' : Nat), t ≤ 64 ∧ i = .int .i64 t ∧ v = .slice A' t c' ∧ Below w.heap.size w wr ∧ OwnN wr w.heap.size A' t c' (Sha.wt l t)) (fun _ i _ => 64 - (intOf i).toNat)
  case atStart => exact ⟨0, none, 0, by omega, rfl, rfl, Below.refl _ _, OwnN.empty _ _⟩
  case round =>
    obtain ⟨t, A', c', ht, rfl, rfl, hb, ho⟩ := hrel
    have HB := Lib.hid hb; have HO := Lib.hid ho
    clear hb ho
    by_cases hlt : t < 16
    · go_wp2
      go_loop [16, 17] (fun x i => ∃ (k p : Nat), k ≤ 4 ∧ i = .int .i64 k ∧ x = .int .u64 p ∧ p = Sha.pre l t k) (fun _ i => 4 - (intOf i).toNat)
      case atStart => exact ⟨0, 0, by omega, rfl, rfl, rfl⟩
      case round =>
        obtain ⟨k, p, hk, rfl, rfl, hp⟩ := hrel
        have hpl : p < 256 ^ k := by rw [hp]; exact Sha.pre_lt _ _ _
        have HP := Lib.hid hp
        clear hp
        by_cases hk4 : k < 4
        · have hpl2 : p < 16777216 := Nat.lt_of_lt_of_le hpl (Nat.le_trans (Nat.pow_le_pow_right (by omega) (by omega : k ≤ 3)) (by decide))
          clear hpl
          obtain ⟨b, off, x, rfl, hx, hc⟩ := (HM.out.below HB.out).byte (k := a0 + 4 * t + k) (by omega)
          have hxl := x.toNat_lt
          go_wp2
          go_round
          case rel => exact ⟨k + 1, 256 * p + x.toNat, by omega, by go_num, by go_num, by rw [HP.out, hx.out, Sha.pre, hl.out, Sha.getD_block _ _ _ (by omega), show a0 + (4 * t + k) = a0 + 4 * t + k from by omega]⟩
          case measure => simp [intOf]; omega
        · have hpe : p = Sha.be4 l t := by rw [HP.out, show k = 4 from by omega, Sha.pre_four]
          have HPE := Lib.hid hpe
          clear hpe hpl HP
          go_wp2_with (at_builtin; refine app_own (w0 := w) rfl _ _ _ rfl _ _ eltN w.heap.size _ _ _ rfl (HO.out.alloc _) _ _ _ ([p].map (iv .u64)) rfl rfl (Ns.one wr _ rfl).2 iv_oneCell ?_ ?_ (HB.out.alloc HB.out.size _) ?_ ?_; rotate_right; intro A2 c2 w2 hown2 hbw2 _ _)
          · go_roundw
            case rel => exact ⟨t + 1, A2, c2, by omega, by go_num, rfl, hbw2, (OwnN.app (ys := [p]) hown2).congr rfl (by rw [Sha.wt_low hlt, HPE.out])⟩
            case measure => simp [intOf]; omega
          · omega
          · omega
          · have := HB.out.size; simp; omega
    · by_cases hlt6 : t < 64
      · obtain ⟨q1, hv1⟩ : ∃ q, Hid (q = (Sha.wt l t).getD (t - 15) 0) := ⟨_, rfl⟩
        obtain ⟨q2, hv2⟩ : ∃ q, Hid (q = (Sha.wt l t).getD (t - 2) 0) := ⟨_, rfl⟩
        obtain ⟨q3, hv3⟩ : ∃ q, Hid (q = (Sha.wt l t).getD (t - 7) 0) := ⟨_, rfl⟩
        obtain ⟨q4, hv4⟩ : ∃ q, Hid (q = (Sha.wt l t).getD (t - 16) 0) := ⟨_, rfl⟩
        have l1 : q1 < 4294967296 := by rw [hv1.out]; exact Sha.getD_lt (Sha.wt_lt l t) _
        have l2 : q2 < 4294967296 := by rw [hv2.out]; exact Sha.getD_lt (Sha.wt_lt l t) _
        have l3 : q3 < 4294967296 := by rw [hv3.out]; exact Sha.getD_lt (Sha.wt_lt l t) _
        have l4 : q4 < 4294967296 := by rw [hv4.out]; exact Sha.getD_lt (Sha.wt_lt l t) _
        obtain ⟨g, rfl, hgb, hgl, _⟩ := HO.out.open (by omega)
        obtain ⟨p1, z1, c1⟩ := HO.out.ns.getAt (i := t - 15) (by omega); obtain rfl : q1 = p1 := hv1.out.trans z1.out.symm
        obtain ⟨p2, z2, c2⟩ := HO.out.ns.getAt (i := t - 2) (by omega); obtain rfl : q2 = p2 := hv2.out.trans z2.out.symm
        obtain ⟨p3, z3, c3⟩ := HO.out.ns.getAt (i := t - 7) (by omega); obtain rfl : q3 = p3 := hv3.out.trans z3.out.symm
        obtain ⟨p4, z4, c4⟩ := HO.out.ns.getAt (i := t - 16) (by omega); obtain rfl : q4 = p4 := hv4.out.trans z4.out.symm
        rw [Nat.zero_add] at c1 c2 c3 c4
        obtain ⟨S0, hS0⟩ : ∃ q, Hid (q = Sha.s0 q1) := ⟨_, rfl⟩
        obtain ⟨S1, hS1⟩ : ∃ q, Hid (q = Sha.s1 q2) := ⟨_, rfl⟩
        have lS0 : S0 < 4294967296 := by rw [hS0.out]; exact Sha.s0_lt l1
        have lS1 : S1 < 4294967296 := by rw [hS1.out]; exact Sha.s1_lt l2
        have E0 : bits .xor .u64 (bits .xor .u64 ((Sha.rotr q1 7 : Nat) : Int) ((Sha.rotr q1 18 : Nat) : Int)) ((q1 : Int) / 8) = (S0 : Int) := by
          rw [hS0.out]; exact xor3_64b _ _ (q1 / 8) (Sha.rotr_lt l1 (by omega)) (Sha.rotr_lt l1 (by omega)) (by omega)
        have E1 : bits .xor .u64 (bits .xor .u64 ((Sha.rotr q2 17 : Nat) : Int) ((Sha.rotr q2 19 : Nat) : Int)) ((q2 : Int) / 1024) = (S1 : Int) := by
          rw [hS1.out]; exact xor3_64b _ _ (q2 / 1024) (Sha.rotr_lt l2 (by omega)) (Sha.rotr_lt l2 (by omega)) (by omega)
        have hw1 : IntKind.i64.wrap ((t : Int) - 15) = (t : Int) - 15 := i64_ok (by omega) (by omega); have hp1 : (15 : Int) ≤ (t : Int) := (by omega); have hp1' : 0 ≤ (t : Int) - 15 := (by omega); have hq1 : (t : Int) - 15 < t := (by omega); have hr1 : ((t : Int) - 15).toNat = t - 15 := (by omega)
        have hw2 : IntKind.i64.wrap ((t : Int) - 2) = (t : Int) - 2 := i64_ok (by omega) (by omega); have hp2 : (2 : Int) ≤ (t : Int) := (by omega); have hp2' : 0 ≤ (t : Int) - 2 := (by omega); have hq2 : (t : Int) - 2 < t := (by omega); have hr2 : ((t : Int) - 2).toNat = t - 2 := (by omega)
        have hw3 : IntKind.i64.wrap ((t : Int) - 7) = (t : Int) - 7 := i64_ok (by omega) (by omega); have hp3 : (7 : Int) ≤ (t : Int) := (by omega); have hp3' : 0 ≤ (t : Int) - 7 := (by omega); have hq3 : (t : Int) - 7 < t := (by omega); have hr3 : ((t : Int) - 7).toNat = t - 7 := (by omega)
        have hw4 : IntKind.i64.wrap ((t : Int) - 16) = (t : Int) - 16 := i64_ok (by omega) (by omega); have hp4 : (16 : Int) ≤ (t : Int) := (by omega); have hp4' : 0 ≤ (t : Int) - 16 := (by omega); have hq4 : (t : Int) - 16 < t := (by omega); have hr4 : ((t : Int) - 16).toNat = t - 16 := (by omega)
        go_wp2_with fail
        go_quiet ((first | (go_at_call 97; first | exact qsame (turn_lit _ _ _ (by assumption) (by omega) (by omega)) | exact qsame_add (turn_lit _ _ _ (by assumption) (by omega) (by omega))) | (go_at_call 98; first | exact qsame (shift_lit _ _ _ (by assumption) (by omega) (by omega)) | exact qsame_add (shift_lit _ _ _ (by assumption) (by omega) (by omega)))))
        obtain ⟨n1, rfl⟩ : ∃ n : Nat, n = nq := ⟨_, rfl⟩
        go_wp2_with fail
        go_quiet ((first | (go_at_call 97; first | exact qsame (turn_lit _ _ _ (by assumption) (by omega) (by omega)) | exact qsame_add (turn_lit _ _ _ (by assumption) (by omega) (by omega))) | (go_at_call 98; first | exact qsame (shift_lit _ _ _ (by assumption) (by omega) (by omega)) | exact qsame_add (shift_lit _ _ _ (by assumption) (by omega) (by omega)))))
        obtain ⟨n2, rfl⟩ : ∃ n : Nat, n = nq := ⟨_, rfl⟩
        go_wp2_with fail
        generalize hwy : World.drewN _ n2 = wy
        have HBy : Hid (Below w.heap.size w wy) := by rw [← hwy]; exact ⟨HB.out.os, HB.out.tape, HB.out.output, HB.out.size, HB.out.block⟩
        have HOy : Hid (OwnN wy w.heap.size (some ⟨g, 0, none⟩) t c' (Sha.wt l t)) := by rw [← hwy]; exact HO.out
        have hcell : ∀ p, wy.cell? p = wr.cell? p := fun p => by rw [← hwy]; rfl
        simp only [← hcell] at c3 c4
        clear hcell hwy HB HO c1 c2 E0 E1
        have v1 : IntKind.u64.wrap ((S1 : Int) + (q3 : Int)) = (S1 : Int) + (q3 : Int) := IntWalk.u64_in _ (by omega)
        have v2 : IntKind.u64.wrap ((S1 : Int) + (q3 : Int) + (S0 : Int)) = (S1 : Int) + (q3 : Int) + (S0 : Int) := IntWalk.u64_in _ (by omega)
        have v3 : IntKind.u64.wrap ((S1 : Int) + (q3 : Int) + (S0 : Int) + (q4 : Int)) = (S1 : Int) + (q3 : Int) + (S0 : Int) + (q4 : Int) := IntWalk.u64_in _ (by omega)
        have v4 : ((S1 : Int) + (q3 : Int) + (S0 : Int) + (q4 : Int)).tmod 4294967296 = (((S1 + q3 + S0 + q4) % 4294967296 : Nat) : Int) := by rw [Int.tmod_eq_emod_of_nonneg (by omega)]; omega
        obtain ⟨z, hz⟩ : ∃ z, Hid (z = (S1 + q3 + S0 + q4) % 4294967296) := ⟨_, rfl⟩
        rw [← hz.out] at v4
        refine wp_region_noPanic ?_
        go_region_law ((refine step_own (w0 := w) (by rfl) (.tmp 143) (.tmp 160) _ (by rfl) _ _ eltN w.heap.size _ t _ (by rfl) ((HOy.out : OwnN wy.drew w.heap.size _ t c' _).alloc _) _ 1 1 ([z].map (iv .u64)) (by rfl) (by rfl) (Ns.one wy.drew _ (by rfl)).2 iv_oneCell (by omega) (by omega) ((HBy.out.drew).alloc HBy.out.size _) (by have := HBy.out.size; simp; omega) ?_; intro A2 c2 w2 hown2 hbw2 _ _))
        all_goals
          refine NoPanic.normal ?_
          go_wp2
          go_roundw
          case rel =>
            have e : Sha.nextW (Sha.wt l t) (t - 16) = z := by
              unfold Sha.nextW
              rw [show t - 16 + 14 = t - 2 from by omega, show t - 16 + 9 = t - 7 from by omega, show t - 16 + 1 = t - 15 from by omega, ← hv1.out, ← hv2.out, ← hv3.out, ← hv4.out, ← hS0.out, ← hS1.out, hz.out]
            exact ⟨t + 1, A2, c2, by omega, by go_num, rfl, hbw2, (OwnN.app (ys := [z]) hown2).congr rfl (by rw [Sha.wt_high (by omega), e])⟩
          case measure => simp [intOf]; omega
      · obtain rfl : t = 64 := by omega
        go_wp2
        have h64 : OwnN wr w.heap.size A' 64 c' (Sha.words ((M.drop a0).take 64)) := by
          have h := HO.out
          rw [hl.out] at h
          exact h
        exact HQ.out _ _ _ _ _ _ _ _ _ _ _ _ _ _ _ _ _ _ _ _ _ _ _ _ _ _ _ _ _ _ _ _ _ _ _ _ _ _ _ _ _ _ _ _ _ _ _ _ _ _ _ _ _ _ _ _ _ _ _ _ _ _ _ _ _ _ _ _ _ _ _ _ _ _ _ _ _ _ _ _ _ _ _ _ _ _ _ _ _ _ _ _ _ _ HB.out h64
end Go.Proofs.Ytjllhimhiekchaa
