/- The reference's digest: one of its small loops. Numbers within their kinds. -/
import Derived.Test.YtjllhimhiekchaaSl
import Derived.Test.YtjllhimhiekchaaRSum8
/- The reference's words of a block, its padding and its state: plain laws. No program in sight. -/
namespace Go.Proofs.Ytjllhimhiekchaa
namespace Sha
/-- The first t words. -/
def wt (l : List UInt8) (t : Nat) : List Nat := ext (w16 l (min t 16)) (t - 16)
theorem wt_low {l : List UInt8} {t : Nat} (h : t < 16) : wt l (t + 1) = wt l t ++ [be4 l t] := by
  unfold wt
  rw [show min (t + 1) 16 = t + 1 from by omega, show min t 16 = t from by omega, show t + 1 - 16 = 0 from by omega, show t - 16 = 0 from by omega]
  rfl
theorem wt_high {l : List UInt8} {t : Nat} (h : 16 ≤ t) : wt l (t + 1) = wt l t ++ [nextW (wt l t) (t - 16)] := by
  unfold wt
  rw [show min (t + 1) 16 = 16 from by omega, show min t 16 = 16 from by omega, show t + 1 - 16 = (t - 16) + 1 from by omega]
  rfl
theorem wt_lt (l : List UInt8) (t : Nat) : ∀ x ∈ wt l t, x < 4294967296 := ext_lt _ (w16_lt l _) _
/-- Four bytes, one behind the other. -/
def pre (l : List UInt8) (t : Nat) : Nat → Nat
  | 0 => 0
  | i + 1 => 256 * pre l t i + (l.getD (4 * t + i) 0).toNat
theorem pre_lt (l : List UInt8) (t i : Nat) : pre l t i < 256 ^ i := by
  induction i with
  | zero => simp [pre]
  | succ i ih =>
    have := (l.getD (4 * t + i) 0).toNat_lt
    simp only [pre, Nat.pow_succ]
    omega
theorem pre_four (l : List UInt8) (t : Nat) : pre l t 4 = be4 l t := by
  simp only [pre, be4, Nat.add_zero]
  omega
theorem getD_block (M : List UInt8) (a i : Nat) (h : i < 64) : ((M.drop a).take 64).getD i 0 = M.getD (a + i) 0 := by
  simp [List.getD_eq_getElem?_getD, List.getElem?_take, List.getElem?_drop, h]
end Sha
end Go.Proofs.Ytjllhimhiekchaa

namespace Go.Proofs.Ytjllhimhiekchaa
open Go.RowKit
theorem be64_take (N j : Nat) (h : j < 8) : (Sha.be64 N).take (j + 1) = (Sha.be64 N).take j ++ [UInt8.ofNat (N / 256 ^ (7 - j))] := by
  obtain rfl | rfl | rfl | rfl | rfl | rfl | rfl | rfl : j = 0 ∨ j = 1 ∨ j = 2 ∨ j = 3 ∨ j = 4 ∨ j = 5 ∨ j = 6 ∨ j = 7 := by omega
  all_goals simp [Sha.be64]
set_option maxRecDepth 100000 in
set_option maxHeartbeats 2000000 in
theorem lp2 (u0 u1 u2 u3 u4 u5 u6 u7 u11 u12 u13 u14 u15 u16 u17 u18 u19 u20 u21 u22 u23 u24 u25 u26 u27 u28 u29 u30 u31 u32 u33 u34 u35 u36 u37 u38 u39 u40 u41 u42 u43 u44 u45 u46 u47 u48 u49 u50 u51 u52 u53 u54 u55 u56 u57 u58 u59 u60 u61 u62 u63 u64 u65 u66 u67 u68 u69 u70 u71 u72 u73 u74 u75 u76 u77 u78 u79 u80 u81 u82 u83 u84 u85 u86 u87 u88 u89 u90 u91 u92 u93 u94 u95 u96 u97 u98 u99 u100 u101 u102 u103 u104 u105 u106 u107 u108 u109 u110 u111 u112 u113 u114 u115 u116 u117 u118 u119 u120 u121 u122 u123 u124 u125 u126 u127 u128 u129 u130 u131 u132 u133 u134 u135 u136 u137 u138 u139 u140 u141 u142 u143 u144 u145 u146 u147 u148 u149 u150 u151 u152 u153 u154 u155 u156 u157 u158 u159 u160 u161 u162 u163 u164 u165 u166 u167 u168 u169 u170 u171 u172 u173 u174 u175 u176 u177 u178 u179 u180 u181 u182 u183 u184 u185 u186 u187 u188 u189 u190 u191 u192 u193 u194 u195 u196 u197 u198 u199 u200 u201 u202 u203 u204 u205 u206 u207 u208 u209 u210 u211 u212 u213 u214 u215 u216 u217 u218 u219 u220 u221 u222 u223 u224 u225 u226 u227 u228 u229 u230 u231 u232 u233 u234 u235 u236 u237 u238 u239 u240 u241 u242 u243 u244 u245 u246 u247 u248 u249 u250 u251 u252 u253 u254 u255 u256 u257 u258 u259 u260 u261 u262 u263 u264 u265 u266 u267 u268 u269 u270 u271 u272 u273 u274 u275 u276 u277 u278 u279 u280 u281 u282 u283 u284 u285 u286 u287 u288 u289 u290 u291 u292 u293 u294 u295 u296 u297 u298 u299 u300 u301 u302 u303 u304 u305 u306 u307 u308 u309 u310 u311 u312 u313 u314 u315 u316 u317 u318 u319 u320 u321 u322 u323 u324 u325 u326 u327 u328 u329 u330 u331 u332 u333 u334 u335 u336 u337 u338 u339 u340 u341 u342 u343 u344 u345 u346 u347 u348 u349 u350 u351 : Value) (A8 : Option Addr) (L c8 N B : Nat) (X : List UInt8) (w : World) (Q : Exit → Act → World → Prop)
    (hN : N < 18446744073709551616) (hL : L ≤ 70368744177664) (ho : Own w B A8 L c8 X) (hB : B ≤ w.heap.size)
    (hQ : ∀ (u10 u11 u12 u50 u51 u52 u53 u54 u55 u56 u57 u58 u59 u60 u61 u62 u63 u64 u65 u66 u67 u68 u69 : Value) (A' : Option Addr) (c' : Nat) (w' : World), Below B w w' → Own w' B A' (L + 8) c' (X ++ Sha.be64 N) →
      Q (.exit 2) { tmps := List.toArray (u0 :: u1 :: u2 :: u3 :: u4 :: u5 :: u6 :: u7 :: (.slice A' (L + 8) c') :: (.int .u64 N) :: u10 :: u11 :: u12 :: u13 :: u14 :: u15 :: u16 :: u17 :: u18 :: u19 :: u20 :: u21 :: u22 :: u23 :: u24 :: u25 :: u26 :: u27 :: u28 :: u29 :: u30 :: u31 :: u32 :: u33 :: u34 :: u35 :: u36 :: u37 :: u38 :: u39 :: u40 :: u41 :: u42 :: u43 :: u44 :: u45 :: u46 :: u47 :: u48 :: u49 :: u50 :: u51 :: u52 :: u53 :: u54 :: u55 :: u56 :: u57 :: u58 :: u59 :: u60 :: u61 :: u62 :: u63 :: u64 :: u65 :: u66 :: u67 :: u68 :: u69 :: u70 :: u71 :: u72 :: u73 :: u74 :: u75 :: u76 :: u77 :: u78 :: u79 :: u80 :: u81 :: u82 :: u83 :: u84 :: u85 :: u86 :: u87 :: u88 :: u89 :: u90 :: u91 :: u92 :: u93 :: u94 :: u95 :: u96 :: u97 :: u98 :: u99 :: u100 :: u101 :: u102 :: u103 :: u104 :: u105 :: u106 :: u107 :: u108 :: u109 :: u110 :: u111 :: u112 :: u113 :: u114 :: u115 :: u116 :: u117 :: u118 :: u119 :: u120 :: u121 :: u122 :: u123 :: u124 :: u125 :: u126 :: u127 :: u128 :: u129 :: u130 :: u131 :: u132 :: u133 :: u134 :: u135 :: u136 :: u137 :: u138 :: u139 :: u140 :: u141 :: u142 :: u143 :: u144 :: u145 :: u146 :: u147 :: u148 :: u149 :: u150 :: u151 :: u152 :: u153 :: u154 :: u155 :: u156 :: u157 :: u158 :: u159 :: u160 :: u161 :: u162 :: u163 :: u164 :: u165 :: u166 :: u167 :: u168 :: u169 :: u170 :: u171 :: u172 :: u173 :: u174 :: u175 :: u176 :: u177 :: u178 :: u179 :: u180 :: u181 :: u182 :: u183 :: u184 :: u185 :: u186 :: u187 :: u188 :: u189 :: u190 :: u191 :: u192 :: u193 :: u194 :: u195 :: u196 :: u197 :: u198 :: u199 :: u200 :: u201 :: u202 :: u203 :: u204 :: u205 :: u206 :: u207 :: u208 :: u209 :: u210 :: u211 :: u212 :: u213 :: u214 :: u215 :: u216 :: u217 :: u218 :: u219 :: u220 :: u221 :: u222 :: u223 :: u224 :: u225 :: u226 :: u227 :: u228 :: u229 :: u230 :: u231 :: u232 :: u233 :: u234 :: u235 :: u236 :: u237 :: u238 :: u239 :: u240 :: u241 :: u242 :: u243 :: u244 :: u245 :: u246 :: u247 :: u248 :: u249 :: u250 :: u251 :: u252 :: u253 :: u254 :: u255 :: u256 :: u257 :: u258 :: u259 :: u260 :: u261 :: u262 :: u263 :: u264 :: u265 :: u266 :: u267 :: u268 :: u269 :: u270 :: u271 :: u272 :: u273 :: u274 :: u275 :: u276 :: u277 :: u278 :: u279 :: u280 :: u281 :: u282 :: u283 :: u284 :: u285 :: u286 :: u287 :: u288 :: u289 :: u290 :: u291 :: u292 :: u293 :: u294 :: u295 :: u296 :: u297 :: u298 :: u299 :: u300 :: u301 :: u302 :: u303 :: u304 :: u305 :: u306 :: u307 :: u308 :: u309 :: u310 :: u311 :: u312 :: u313 :: u314 :: u315 :: u316 :: u317 :: u318 :: u319 :: u320 :: u321 :: u322 :: u323 :: u324 :: u325 :: u326 :: u327 :: u328 :: u329 :: u330 :: u331 :: u332 :: u333 :: u334 :: u335 :: u336 :: u337 :: u338 :: u339 :: u340 :: u341 :: u342 :: u343 :: u344 :: u345 :: u346 :: u347 :: u348 :: u349 :: u350 :: u351 :: []), defers := [] } w') :
    Code.wp Try.prog (nthLoop Try.f85 1) Q { tmps := List.toArray (u0 :: u1 :: u2 :: u3 :: u4 :: u5 :: u6 :: u7 :: (.slice A8 L c8) :: (.int .u64 N) :: (.int .i64 0) :: u11 :: u12 :: u13 :: u14 :: u15 :: u16 :: u17 :: u18 :: u19 :: u20 :: u21 :: u22 :: u23 :: u24 :: u25 :: u26 :: u27 :: u28 :: u29 :: u30 :: u31 :: u32 :: u33 :: u34 :: u35 :: u36 :: u37 :: u38 :: u39 :: u40 :: u41 :: u42 :: u43 :: u44 :: u45 :: u46 :: u47 :: u48 :: u49 :: u50 :: u51 :: u52 :: u53 :: u54 :: u55 :: u56 :: u57 :: u58 :: u59 :: u60 :: u61 :: u62 :: u63 :: u64 :: u65 :: u66 :: u67 :: u68 :: u69 :: u70 :: u71 :: u72 :: u73 :: u74 :: u75 :: u76 :: u77 :: u78 :: u79 :: u80 :: u81 :: u82 :: u83 :: u84 :: u85 :: u86 :: u87 :: u88 :: u89 :: u90 :: u91 :: u92 :: u93 :: u94 :: u95 :: u96 :: u97 :: u98 :: u99 :: u100 :: u101 :: u102 :: u103 :: u104 :: u105 :: u106 :: u107 :: u108 :: u109 :: u110 :: u111 :: u112 :: u113 :: u114 :: u115 :: u116 :: u117 :: u118 :: u119 :: u120 :: u121 :: u122 :: u123 :: u124 :: u125 :: u126 :: u127 :: u128 :: u129 :: u130 :: u131 :: u132 :: u133 :: u134 :: u135 :: u136 :: u137 :: u138 :: u139 :: u140 :: u141 :: u142 :: u143 :: u144 :: u145 :: u146 :: u147 :: u148 :: u149 :: u150 :: u151 :: u152 :: u153 :: u154 :: u155 :: u156 :: u157 :: u158 :: u159 :: u160 :: u161 :: u162 :: u163 :: u164 :: u165 :: u166 :: u167 :: u168 :: u169 :: u170 :: u171 :: u172 :: u173 :: u174 :: u175 :: u176 :: u177 :: u178 :: u179 :: u180 :: u181 :: u182 :: u183 :: u184 :: u185 :: u186 :: u187 :: u188 :: u189 :: u190 :: u191 :: u192 :: u193 :: u194 :: u195 :: u196 :: u197 :: u198 :: u199 :: u200 :: u201 :: u202 :: u203 :: u204 :: u205 :: u206 :: u207 :: u208 :: u209 :: u210 :: u211 :: u212 :: u213 :: u214 :: u215 :: u216 :: u217 :: u218 :: u219 :: u220 :: u221 :: u222 :: u223 :: u224 :: u225 :: u226 :: u227 :: u228 :: u229 :: u230 :: u231 :: u232 :: u233 :: u234 :: u235 :: u236 :: u237 :: u238 :: u239 :: u240 :: u241 :: u242 :: u243 :: u244 :: u245 :: u246 :: u247 :: u248 :: u249 :: u250 :: u251 :: u252 :: u253 :: u254 :: u255 :: u256 :: u257 :: u258 :: u259 :: u260 :: u261 :: u262 :: u263 :: u264 :: u265 :: u266 :: u267 :: u268 :: u269 :: u270 :: u271 :: u272 :: u273 :: u274 :: u275 :: u276 :: u277 :: u278 :: u279 :: u280 :: u281 :: u282 :: u283 :: u284 :: u285 :: u286 :: u287 :: u288 :: u289 :: u290 :: u291 :: u292 :: u293 :: u294 :: u295 :: u296 :: u297 :: u298 :: u299 :: u300 :: u301 :: u302 :: u303 :: u304 :: u305 :: u306 :: u307 :: u308 :: u309 :: u310 :: u311 :: u312 :: u313 :: u314 :: u315 :: u316 :: u317 :: u318 :: u319 :: u320 :: u321 :: u322 :: u323 :: u324 :: u325 :: u326 :: u327 :: u328 :: u329 :: u330 :: u331 :: u332 :: u333 :: u334 :: u335 :: u336 :: u337 :: u338 :: u339 :: u340 :: u341 :: u342 :: u343 :: u344 :: u345 :: u346 :: u347 :: u348 :: u349 :: u350 :: u351 :: []), defers := [] } w := by
  have HQ := Lib.hid hQ; have HO := Lib.hid ho
  clear hQ ho
  conv => arg 2; whnf
  go_loopw [8, 10] (fun v i wr => ∃ (j : Nat) (A' : Option Addr) (c' : Nat), j ≤ 8 ∧ i = .int .i64 j ∧ v = .slice A' (L + j) c' ∧ Below B w wr ∧ Own wr B A' (L + j) c' (X ++ (Sha.be64 N).take j)) (fun _ i _ => 8 - (intOf i).toNat)
  case atStart => exact ⟨0, A8, c8, by omega, rfl, rfl, Below.refl _ _, HO.out.congr rfl (by simp)⟩
  case round =>
    obtain ⟨j, A', c', hj, rfl, rfl, hb, hox⟩ := hrel
    have HB := Lib.hid hb; have HX := Lib.hid hox
    clear hb hox HO
    by_cases hlt : j < 8
    · go_wp2
      go_loop [11, 12] (fun x i => ∃ (k u : Nat), k + j ≤ 7 ∧ i = .int .i64 k ∧ x = .int .u64 u ∧ u = 256 ^ k) (fun _ i => 7 - (intOf i).toNat)
      case atStart => exact ⟨0, 1, by omega, rfl, rfl, rfl⟩
      case round =>
        obtain ⟨k, u, hk, rfl, rfl, hu⟩ := hrel
        have HU := Lib.hid hu
        have hul : u ≤ 72057594037927936 := by rw [hu]; exact Nat.pow_le_pow_right (n := 256) (by omega) (by omega : k ≤ 7)
        have hu0 : 0 < u := by rw [hu]; exact Nat.pow_pos (by omega)
        clear hu
        by_cases hk7 : k + j < 7
        · have hul : u ≤ 281474976710656 := by rw [HU.out]; exact Nat.pow_le_pow_right (n := 256) (by omega) (by omega : k ≤ 6)
          have hki : (k : Int) < 7 - (j : Int) := by omega
          go_wp2
          go_round
          case rel => exact ⟨k + 1, u * 256, by omega, by go_num, by go_num, by rw [HU.out, Nat.pow_succ]⟩
          case measure => simp [intOf]; omega
        · have hki : ¬ (k : Int) < 7 - (j : Int) := by omega
          obtain ⟨q, hq⟩ : ∃ q, Hid (q = N / u) := ⟨_, rfl⟩
          have lq : q < 18446744073709551616 := by rw [hq.out]; exact Nat.lt_of_le_of_lt (Nat.div_le_self _ _) hN
          have rq : (N : Int) / (u : Int) = (q : Int) := by rw [hq.out]; simp
          have hui : (0 : Int) < (u : Int) := by omega
          go_wp2_with (at_builtin; refine app_own (w0 := w) rfl _ _ _ rfl _ _ eltB B _ _ _ rfl (HX.out.alloc _) _ _ _ ([UInt8.ofNat q].map bv) rfl rfl (Bs.oneE wr _ ?_).2 (by intro u hu; exact bv_one u hu) ?_ ?_ (HB.out.alloc (by have := HB.out.size; omega) _) ?_ ?_; rotate_right; intro A2 c2 w2 hown2 hbw2 _ _)
          · go_roundw
            case rel => exact ⟨j + 1, A2, c2, by omega, by go_num, rfl, hbw2, (Own.app (ys := [UInt8.ofNat q]) hown2).congr rfl (by rw [be64_take N j hlt, List.append_assoc, hq.out, HU.out, show k = 7 - j from by omega])⟩
            case measure => simp [intOf]; omega
          · omega
          · omega
          · have := HB.out.size; simp; omega
    · obtain rfl : j = 8 := by omega
      go_wp2
      exact HQ.out _ _ _ _ _ _ _ _ _ _ _ _ _ _ _ _ _ _ _ _ _ _ _ _ _ _ HB.out HX.out
end Go.Proofs.Ytjllhimhiekchaa
