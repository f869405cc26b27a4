/- The reference's digest: its loop over the bits. Words below 2^32. -/
import Derived.Test.YtjllhimhiekchaaRow
import Derived.Test.YtjllhimhiekchaaSl
import Derived.Test.YtjllhimhiekchaaBigC
/- The references' turn and shift of 32 bits. Numbers below 2^32, by at most 32 bits. -/
namespace Go.Proofs.Ytjllhimhiekchaa
open Go.RowKit

theorem rotr_zero (x : Nat) : Sha.rotr x 0 = x := by simp [Sha.rotr, Nat.mod_one]
theorem rotr_succ (x i : Nat) (hi : i < 32) : Sha.rotr x (i + 1) = Sha.rotr x i / 2 + Sha.rotr x i % 2 * 2147483648 := by
  unfold Sha.rotr
  obtain ⟨p, hp⟩ : ∃ p, p = 2 ^ i := ⟨_, rfl⟩
  obtain ⟨q, hq⟩ : ∃ q, q = 2 ^ (31 - i) := ⟨_, rfl⟩
  have hpq : p * q = 2147483648 := by rw [hp, hq, ← Nat.pow_add, show i + (31 - i) = 31 from by omega]
  have e1 : 2 ^ (i + 1) = 2 * p := by rw [Nat.pow_succ, hp]; omega
  have e2 : 2 ^ (32 - i) = 2 * q := by rw [show 32 - i = (31 - i) + 1 from by omega, Nat.pow_succ, hq]; omega
  have e3 : 2 ^ (32 - (i + 1)) = q := by rw [show 32 - (i + 1) = 31 - i from by omega, hq]
  rw [e1, e2, e3, ← hp]
  have h1 : x / (2 * p) = x / p / 2 := by rw [Nat.mul_comm, Nat.div_div_eq_div_mul]
  have h2 : x % (2 * p) = x % p + p * (x / p % 2) := by rw [Nat.mul_comm 2 p, Nat.mod_mul]
  rw [h1, h2, Nat.add_mul, Nat.mul_assoc, Nat.mul_comm (x / p % 2) q, ← Nat.mul_assoc, hpq]
  generalize x / p = a
  generalize x % p = b
  have h3 : b * (2 * q) = 2 * (b * q) := by rw [← Nat.mul_assoc, Nat.mul_comm b 2, Nat.mul_assoc]
  rw [h3]
  generalize b * q = t
  omega

set_option maxHeartbeats 400000 in
theorem turn_any (x n : Nat) (w : World) (hx : x < 4294967296) (hn : n ≤ 32) :
    Calls Try.prog 97 #[.int .u64 x, .int .i64 n] w fun e w' => e = .returned (.int .u64 (Sha.rotr x n : Nat)) ∧ w = w' := by
  go_enter Try.func97, Try.ntmps97
  go_wp2
  go_loop [0, 5] (fun v i => ∃ k y : Nat, k ≤ n ∧ i = .int .i64 k ∧ v = .int .u64 y ∧ y = Sha.rotr x k) (fun _ i => n - (intOf i).toNat)
  case atStart => exact ⟨0, x, by omega, rfl, rfl, (rotr_zero x).symm⟩
  case round =>
    obtain ⟨k, y, hk, rfl, rfl, hy⟩ := hrel
    have hyl : y < 4294967296 := by rw [hy]; exact Sha.rotr_lt hx (by omega)
    have HY := Lib.hid hy
    clear hy
    by_cases hlt : k < n
    · go_wp2
      go_round
      case rel => exact ⟨k + 1, y / 2 + y % 2 * 2147483648, by omega, by go_num, int_val (by omega), by rw [HY.out, rotr_succ x k (by omega)]⟩
      case measure => simp [intOf]; omega
    · go_wp2
      go_ret
      exact ⟨by rw [show n = k from by omega, ← HY.out]; rfl, rfl⟩
set_option maxHeartbeats 400000 in
theorem shift_any (x n : Nat) (w : World) (hx : x < 4294967296) (hn : n ≤ 32) :
    Calls Try.prog 98 #[.int .u64 x, .int .i64 n] w fun e w' => e = .returned (.int .u64 (x / 2 ^ n : Nat)) ∧ w = w' := by
  go_enter Try.func98, Try.ntmps98
  go_wp2
  go_loop [0, 5] (fun v i => ∃ k y : Nat, k ≤ n ∧ i = .int .i64 k ∧ v = .int .u64 y ∧ y = x / 2 ^ k) (fun _ i => n - (intOf i).toNat)
  case atStart => exact ⟨0, x, by omega, rfl, rfl, by simp⟩
  case round =>
    obtain ⟨k, y, hk, rfl, rfl, hy⟩ := hrel
    have hyl : y < 4294967296 := by rw [hy]; exact Nat.lt_of_le_of_lt (Nat.div_le_self _ _) hx
    have HY := Lib.hid hy
    clear hy
    by_cases hlt : k < n
    · go_wp2
      go_round
      case rel => exact ⟨k + 1, y / 2, by omega, by go_num, int_val (by omega), by rw [HY.out, Nat.pow_succ, Nat.div_div_eq_div_mul]⟩
      case measure => simp [intOf]; omega
    · go_wp2
      go_ret
      exact ⟨by show Ending.returned (.int .u64 (y : Int)) = _; rw [HY.out, show n = k from by omega]; simp, rfl⟩
theorem turn_lit (x : Nat) (n : Int) (w : World) (hx : x < 4294967296) (h0 : 0 ≤ n) (hn : n ≤ 32) :
    Calls Try.prog 97 #[.int .u64 x, .int .i64 n] w fun e w' => e = .returned (.int .u64 (Sha.rotr x n.toNat : Nat)) ∧ w = w' := by
  obtain ⟨m, rfl⟩ := Int.eq_ofNat_of_zero_le h0
  rw [Int.toNat_natCast]
  exact turn_any x m w hx (by omega)
theorem shift_lit (x : Nat) (n : Int) (w : World) (hx : x < 4294967296) (h0 : 0 ≤ n) (hn : n ≤ 32) :
    Calls Try.prog 98 #[.int .u64 x, .int .i64 n] w fun e w' => e = .returned (.int .u64 (x / 2 ^ n.toNat : Nat)) ∧ w = w' := by
  obtain ⟨m, rfl⟩ := Int.eq_ofNat_of_zero_le h0
  rw [Int.toNat_natCast]
  exact shift_any x m w hx (by omega)
end Go.Proofs.Ytjllhimhiekchaa

/- The reference's digest, its bits and words: plain laws. No program in sight. -/
namespace Go.Proofs.Ytjllhimhiekchaa
namespace Sha
theorem low_succ (c k : Nat) : c % 2 ^ (k + 1) = c % 2 ^ k + c / 2 ^ k % 2 * 2 ^ k := by
  rw [Nat.pow_succ, Nat.mod_mul, Nat.mul_comm (2 ^ k)]
theorem compl_bit {e k : Nat} (he : e < 4294967296) (hk : k < 32) : (4294967295 - e).testBit k = !e.testBit k := by
  have h1 := Nat.testBit_two_pow_sub_succ (n := 32) he k
  rw [show (2 : Nat) ^ 32 - (e + 1) = 4294967295 - e from by omega] at h1
  simp [h1, hk]
theorem ch_bit {e f g k : Nat} (he : e < 4294967296) (hk : k < 32) : ch e f g / 2 ^ k % 2 = if e / 2 ^ k % 2 = 1 then f / 2 ^ k % 2 else g / 2 ^ k % 2 := by
  rw [← Nat.toNat_testBit, ← Nat.toNat_testBit, ← Nat.toNat_testBit, ← Nat.toNat_testBit]
  unfold ch
  rw [Nat.testBit_xor, Nat.testBit_and, Nat.testBit_and, compl_bit he hk]
  cases e.testBit k <;> cases f.testBit k <;> cases g.testBit k <;> rfl
theorem maj_bit (a b c k : Nat) : maj a b c / 2 ^ k % 2 = if 2 ≤ a / 2 ^ k % 2 + b / 2 ^ k % 2 + c / 2 ^ k % 2 then 1 else 0 := by
  rw [← Nat.toNat_testBit, ← Nat.toNat_testBit, ← Nat.toNat_testBit, ← Nat.toNat_testBit]
  unfold maj
  rw [Nat.testBit_xor, Nat.testBit_xor, Nat.testBit_and, Nat.testBit_and, Nat.testBit_and]
  cases a.testBit k <;> cases b.testBit k <;> cases c.testBit k <;> rfl
theorem ch_step1 {e f g k : Nat} (he : e < 4294967296) (hk : k < 32) (h : e / 2 ^ k % 2 = 1) : ch e f g % 2 ^ (k + 1) = ch e f g % 2 ^ k + f / 2 ^ k % 2 * 2 ^ k := by
  rw [low_succ, ch_bit he hk, if_pos h]
theorem ch_step0 {e f g k : Nat} (he : e < 4294967296) (hk : k < 32) (h : ¬ e / 2 ^ k % 2 = 1) : ch e f g % 2 ^ (k + 1) = ch e f g % 2 ^ k + g / 2 ^ k % 2 * 2 ^ k := by
  rw [low_succ, ch_bit he hk, if_neg h]
theorem maj_step1 {a b c k : Nat} (h : 2 ≤ a / 2 ^ k % 2 + b / 2 ^ k % 2 + c / 2 ^ k % 2) : maj a b c % 2 ^ (k + 1) = maj a b c % 2 ^ k + 2 ^ k := by
  rw [low_succ, maj_bit, if_pos h, Nat.one_mul]
theorem maj_step0 {a b c k : Nat} (h : ¬ 2 ≤ a / 2 ^ k % 2 + b / 2 ^ k % 2 + c / 2 ^ k % 2) : maj a b c % 2 ^ (k + 1) = maj a b c % 2 ^ k := by
  rw [low_succ, maj_bit, if_neg h, Nat.zero_mul, Nat.add_zero]
end Sha
end Go.Proofs.Ytjllhimhiekchaa

namespace Go.Proofs.Ytjllhimhiekchaa
open Go.RowKit
set_option maxRecDepth 100000 in
set_option maxHeartbeats 1000000 in
theorem lp8 (u0 u1 u2 u3 u4 u5 u6 u7 u8 u9 u10 u11 u12 u13 u14 u15 u16 u17 u18 u19 u21 u26 u27 u28 u29 u30 u31 u32 u33 u34 u35 u36 u37 u38 u39 u40 u41 u42 u43 u44 u45 u46 u47 u48 u49 u50 u51 u52 u53 u54 u55 u56 u57 u58 u59 u60 u61 u62 u63 u64 u65 u66 u67 u68 u69 u70 u71 u72 u73 u74 u75 u76 u77 u78 u79 u80 u81 u82 u83 u84 u85 u86 u87 u88 u89 u90 u91 u92 u93 u94 u95 u96 u97 u98 u99 u100 u101 u102 u103 u104 u105 u106 u107 u108 u109 u110 u111 u112 u113 u114 u115 u116 u117 u118 u119 u120 u121 u122 u123 u124 u125 u126 u127 u128 u129 u130 u131 u132 u133 u134 u135 u136 u137 u138 u139 u140 u141 u142 u143 u144 u145 u146 u147 u148 u149 u150 u151 u152 u153 u154 u155 u156 u157 u158 u159 u160 u161 u162 u163 u164 u165 u166 u167 u168 u169 u170 u171 u172 u173 u174 u175 u176 u177 u178 u179 u180 u181 u182 u183 u184 u185 u186 u187 u188 u189 u190 u191 u192 u193 u194 u195 u196 u197 u198 u199 u200 u201 u202 u203 u204 u205 u206 u207 u208 u209 u210 u211 u212 u213 u214 u215 u216 u217 u218 u219 u220 u221 u222 u223 u224 u225 u226 u227 u228 u229 u230 u231 u232 u233 u234 u235 u236 u237 u238 u239 u240 u241 u242 u243 u244 u245 u246 u247 u248 u249 u250 u251 u252 u253 u254 u255 u256 u257 u258 u259 u260 u261 u262 u263 u264 u265 u266 u267 u268 u269 u270 u271 u272 u273 u274 u275 u276 u277 u278 u279 u280 u281 u282 u283 u284 u285 u286 u287 u288 u289 u290 u291 u292 u293 u294 u295 u296 u297 u298 u299 u300 u301 u302 u303 u304 u305 u306 u307 u308 u309 u310 u311 u312 u313 u314 u315 u316 u317 u318 u319 u320 u321 u322 u323 u324 u325 u326 u327 u328 u329 u330 u331 u332 u333 u334 u335 u336 u337 u338 u339 u340 u341 u342 u343 u344 u345 u346 u347 u348 u349 u350 u351 : Value) (g cv a b c d e f g' h : Nat) (w : World) (Q : Exit → Act → World → Prop)
    (la : a < 4294967296) (lb : b < 4294967296) (lc : c < 4294967296) (le : e < 4294967296) (lf : f < 4294967296) (lg : g' < 4294967296)
    (hv : Ns .u64 w (some ⟨g, 0, none⟩) 8 [a, b, c, d, e, f, g', h])
    (hQ : ∀ (u24 u25 u169 u170 u171 u172 u173 u174 u175 u176 u177 u178 u179 u180 u181 u182 u183 u184 u185 u186 u187 u188 u189 u190 u191 u192 u193 u194 u195 u196 u197 u198 u199 u200 u201 u202 u203 u204 u205 u206 u207 u208 u209 u210 u211 u212 u213 u214 u215 u216 u217 u218 u219 u220 u221 u222 u223 u224 u225 : Value) (n : Nat), Q (.exit 14) { tmps := List.toArray (u0 :: u1 :: u2 :: u3 :: u4 :: u5 :: u6 :: u7 :: u8 :: u9 :: u10 :: u11 :: u12 :: u13 :: u14 :: u15 :: u16 :: u17 :: u18 :: u19 :: (.slice (some ⟨g, 0, none⟩) 8 cv) :: u21 :: (.int .u64 (Sha.ch e f g' : Nat)) :: (.int .u64 (Sha.maj a b c : Nat)) :: u24 :: u25 :: u26 :: u27 :: u28 :: u29 :: u30 :: u31 :: u32 :: u33 :: u34 :: u35 :: u36 :: u37 :: u38 :: u39 :: u40 :: u41 :: u42 :: u43 :: u44 :: u45 :: u46 :: u47 :: u48 :: u49 :: u50 :: u51 :: u52 :: u53 :: u54 :: u55 :: u56 :: u57 :: u58 :: u59 :: u60 :: u61 :: u62 :: u63 :: u64 :: u65 :: u66 :: u67 :: u68 :: u69 :: u70 :: u71 :: u72 :: u73 :: u74 :: u75 :: u76 :: u77 :: u78 :: u79 :: u80 :: u81 :: u82 :: u83 :: u84 :: u85 :: u86 :: u87 :: u88 :: u89 :: u90 :: u91 :: u92 :: u93 :: u94 :: u95 :: u96 :: u97 :: u98 :: u99 :: u100 :: u101 :: u102 :: u103 :: u104 :: u105 :: u106 :: u107 :: u108 :: u109 :: u110 :: u111 :: u112 :: u113 :: u114 :: u115 :: u116 :: u117 :: u118 :: u119 :: u120 :: u121 :: u122 :: u123 :: u124 :: u125 :: u126 :: u127 :: u128 :: u129 :: u130 :: u131 :: u132 :: u133 :: u134 :: u135 :: u136 :: u137 :: u138 :: u139 :: u140 :: u141 :: u142 :: u143 :: u144 :: u145 :: u146 :: u147 :: u148 :: u149 :: u150 :: u151 :: u152 :: u153 :: u154 :: u155 :: u156 :: u157 :: u158 :: u159 :: u160 :: u161 :: u162 :: u163 :: u164 :: u165 :: u166 :: u167 :: u168 :: u169 :: u170 :: u171 :: u172 :: u173 :: u174 :: u175 :: u176 :: u177 :: u178 :: u179 :: u180 :: u181 :: u182 :: u183 :: u184 :: u185 :: u186 :: u187 :: u188 :: u189 :: u190 :: u191 :: u192 :: u193 :: u194 :: u195 :: u196 :: u197 :: u198 :: u199 :: u200 :: u201 :: u202 :: u203 :: u204 :: u205 :: u206 :: u207 :: u208 :: u209 :: u210 :: u211 :: u212 :: u213 :: u214 :: u215 :: u216 :: u217 :: u218 :: u219 :: u220 :: u221 :: u222 :: u223 :: u224 :: u225 :: u226 :: u227 :: u228 :: u229 :: u230 :: u231 :: u232 :: u233 :: u234 :: u235 :: u236 :: u237 :: u238 :: u239 :: u240 :: u241 :: u242 :: u243 :: u244 :: u245 :: u246 :: u247 :: u248 :: u249 :: u250 :: u251 :: u252 :: u253 :: u254 :: u255 :: u256 :: u257 :: u258 :: u259 :: u260 :: u261 :: u262 :: u263 :: u264 :: u265 :: u266 :: u267 :: u268 :: u269 :: u270 :: u271 :: u272 :: u273 :: u274 :: u275 :: u276 :: u277 :: u278 :: u279 :: u280 :: u281 :: u282 :: u283 :: u284 :: u285 :: u286 :: u287 :: u288 :: u289 :: u290 :: u291 :: u292 :: u293 :: u294 :: u295 :: u296 :: u297 :: u298 :: u299 :: u300 :: u301 :: u302 :: u303 :: u304 :: u305 :: u306 :: u307 :: u308 :: u309 :: u310 :: u311 :: u312 :: u313 :: u314 :: u315 :: u316 :: u317 :: u318 :: u319 :: u320 :: u321 :: u322 :: u323 :: u324 :: u325 :: u326 :: u327 :: u328 :: u329 :: u330 :: u331 :: u332 :: u333 :: u334 :: u335 :: u336 :: u337 :: u338 :: u339 :: u340 :: u341 :: u342 :: u343 :: u344 :: u345 :: u346 :: u347 :: u348 :: u349 :: u350 :: u351 :: []), defers := [] } (w.drewN n)) :
    Code.wp Try.prog (nthLoop Try.f85 7) Q { tmps := List.toArray (u0 :: u1 :: u2 :: u3 :: u4 :: u5 :: u6 :: u7 :: u8 :: u9 :: u10 :: u11 :: u12 :: u13 :: u14 :: u15 :: u16 :: u17 :: u18 :: u19 :: (.slice (some ⟨g, 0, none⟩) 8 cv) :: u21 :: (.int .u64 0) :: (.int .u64 0) :: (.int .u64 1) :: (.int .i64 0) :: u26 :: u27 :: u28 :: u29 :: u30 :: u31 :: u32 :: u33 :: u34 :: u35 :: u36 :: u37 :: u38 :: u39 :: u40 :: u41 :: u42 :: u43 :: u44 :: u45 :: u46 :: u47 :: u48 :: u49 :: u50 :: u51 :: u52 :: u53 :: u54 :: u55 :: u56 :: u57 :: u58 :: u59 :: u60 :: u61 :: u62 :: u63 :: u64 :: u65 :: u66 :: u67 :: u68 :: u69 :: u70 :: u71 :: u72 :: u73 :: u74 :: u75 :: u76 :: u77 :: u78 :: u79 :: u80 :: u81 :: u82 :: u83 :: u84 :: u85 :: u86 :: u87 :: u88 :: u89 :: u90 :: u91 :: u92 :: u93 :: u94 :: u95 :: u96 :: u97 :: u98 :: u99 :: u100 :: u101 :: u102 :: u103 :: u104 :: u105 :: u106 :: u107 :: u108 :: u109 :: u110 :: u111 :: u112 :: u113 :: u114 :: u115 :: u116 :: u117 :: u118 :: u119 :: u120 :: u121 :: u122 :: u123 :: u124 :: u125 :: u126 :: u127 :: u128 :: u129 :: u130 :: u131 :: u132 :: u133 :: u134 :: u135 :: u136 :: u137 :: u138 :: u139 :: u140 :: u141 :: u142 :: u143 :: u144 :: u145 :: u146 :: u147 :: u148 :: u149 :: u150 :: u151 :: u152 :: u153 :: u154 :: u155 :: u156 :: u157 :: u158 :: u159 :: u160 :: u161 :: u162 :: u163 :: u164 :: u165 :: u166 :: u167 :: u168 :: u169 :: u170 :: u171 :: u172 :: u173 :: u174 :: u175 :: u176 :: u177 :: u178 :: u179 :: u180 :: u181 :: u182 :: u183 :: u184 :: u185 :: u186 :: u187 :: u188 :: u189 :: u190 :: u191 :: u192 :: u193 :: u194 :: u195 :: u196 :: u197 :: u198 :: u199 :: u200 :: u201 :: u202 :: u203 :: u204 :: u205 :: u206 :: u207 :: u208 :: u209 :: u210 :: u211 :: u212 :: u213 :: u214 :: u215 :: u216 :: u217 :: u218 :: u219 :: u220 :: u221 :: u222 :: u223 :: u224 :: u225 :: u226 :: u227 :: u228 :: u229 :: u230 :: u231 :: u232 :: u233 :: u234 :: u235 :: u236 :: u237 :: u238 :: u239 :: u240 :: u241 :: u242 :: u243 :: u244 :: u245 :: u246 :: u247 :: u248 :: u249 :: u250 :: u251 :: u252 :: u253 :: u254 :: u255 :: u256 :: u257 :: u258 :: u259 :: u260 :: u261 :: u262 :: u263 :: u264 :: u265 :: u266 :: u267 :: u268 :: u269 :: u270 :: u271 :: u272 :: u273 :: u274 :: u275 :: u276 :: u277 :: u278 :: u279 :: u280 :: u281 :: u282 :: u283 :: u284 :: u285 :: u286 :: u287 :: u288 :: u289 :: u290 :: u291 :: u292 :: u293 :: u294 :: u295 :: u296 :: u297 :: u298 :: u299 :: u300 :: u301 :: u302 :: u303 :: u304 :: u305 :: u306 :: u307 :: u308 :: u309 :: u310 :: u311 :: u312 :: u313 :: u314 :: u315 :: u316 :: u317 :: u318 :: u319 :: u320 :: u321 :: u322 :: u323 :: u324 :: u325 :: u326 :: u327 :: u328 :: u329 :: u330 :: u331 :: u332 :: u333 :: u334 :: u335 :: u336 :: u337 :: u338 :: u339 :: u340 :: u341 :: u342 :: u343 :: u344 :: u345 :: u346 :: u347 :: u348 :: u349 :: u350 :: u351 :: []), defers := [] } w := by
  have HQ := Lib.hid hQ
  clear hQ
  conv => arg 2; whnf
  obtain ⟨x0, hx0, c0⟩ := hv.getAt (i := 0) (by omega)
  obtain ⟨x1, hx1, c1⟩ := hv.getAt (i := 1) (by omega)
  obtain ⟨x2, hx2, c2⟩ := hv.getAt (i := 2) (by omega)
  obtain ⟨x4, hx4, c4⟩ := hv.getAt (i := 4) (by omega)
  obtain ⟨x5, hx5, c5⟩ := hv.getAt (i := 5) (by omega)
  obtain ⟨x6, hx6, c6⟩ := hv.getAt (i := 6) (by omega)
  obtain rfl : x0 = a := hx0; obtain rfl : x1 = b := hx1; obtain rfl : x2 = c := hx2; obtain rfl : x4 = e := hx4; obtain rfl : x5 = f := hx5; obtain rfl : x6 = g' := hx6
  clear hv
  go_loopw [22, 23, 24, 25] (fun p q r i wr => ∃ k u y z n : Nat, k ≤ 32 ∧ wr = w.drewN n ∧ i = .int .i64 k ∧ r = .int .u64 u ∧ p = .int .u64 y ∧ q = .int .u64 z ∧ u = 2 ^ k ∧ y = Sha.ch x4 x5 x6 % 2 ^ k ∧ z = Sha.maj x0 x1 x2 % 2 ^ k) (fun _ _ _ i _ => 32 - (intOf i).toNat)
  case atStart => exact ⟨0, 1, 0, 0, 0, by omega, rfl, rfl, rfl, rfl, rfl, rfl, by rw [Nat.pow_zero, Nat.mod_one], by rw [Nat.pow_zero, Nat.mod_one]⟩
  case round =>
    obtain ⟨k, u, y, z, n, hk, rfl, rfl, rfl, rfl, rfl, hu, hy, hz⟩ := hrel
    have HU := Lib.hid hu; have HY := Lib.hid hy; have HZ := Lib.hid hz
    clear hu hy hz
    by_cases hlt : k < 32
    · have hu0 : 0 < u := by rw [HU.out]; exact Nat.two_pow_pos _
      have hul : u < 4294967296 := by rw [HU.out]; exact Nat.pow_lt_pow_right (by omega) hlt
      have hyl : y < 4294967296 := by rw [HY.out]; exact Nat.lt_of_le_of_lt (Nat.mod_le _ _) (Sha.ch_lt le)
      have hzl : z < 4294967296 := by rw [HZ.out]; exact Nat.lt_of_le_of_lt (Nat.mod_le _ _) (Sha.maj_lt la lb)
      obtain ⟨q0, hq0⟩ : ∃ q, Hid (q = x0 / u) := ⟨_, rfl⟩
      have l0 : q0 < 4294967296 := by rw [hq0.out]; exact Nat.lt_of_le_of_lt (Nat.div_le_self _ _) (by assumption)
      have r0 : (x0 : Int) / (u : Int) = (q0 : Int) := by rw [hq0.out]; simp
      obtain ⟨q1, hq1⟩ : ∃ q, Hid (q = x1 / u) := ⟨_, rfl⟩
      have l1 : q1 < 4294967296 := by rw [hq1.out]; exact Nat.lt_of_le_of_lt (Nat.div_le_self _ _) (by assumption)
      have r1 : (x1 : Int) / (u : Int) = (q1 : Int) := by rw [hq1.out]; simp
      obtain ⟨q2, hq2⟩ : ∃ q, Hid (q = x2 / u) := ⟨_, rfl⟩
      have l2 : q2 < 4294967296 := by rw [hq2.out]; exact Nat.lt_of_le_of_lt (Nat.div_le_self _ _) (by assumption)
      have r2 : (x2 : Int) / (u : Int) = (q2 : Int) := by rw [hq2.out]; simp
      obtain ⟨q4, hq4⟩ : ∃ q, Hid (q = x4 / u) := ⟨_, rfl⟩
      have l4 : q4 < 4294967296 := by rw [hq4.out]; exact Nat.lt_of_le_of_lt (Nat.div_le_self _ _) (by assumption)
      have r4 : (x4 : Int) / (u : Int) = (q4 : Int) := by rw [hq4.out]; simp
      obtain ⟨q5, hq5⟩ : ∃ q, Hid (q = x5 / u) := ⟨_, rfl⟩
      have l5 : q5 < 4294967296 := by rw [hq5.out]; exact Nat.lt_of_le_of_lt (Nat.div_le_self _ _) (by assumption)
      have r5 : (x5 : Int) / (u : Int) = (q5 : Int) := by rw [hq5.out]; simp
      obtain ⟨q6, hq6⟩ : ∃ q, Hid (q = x6 / u) := ⟨_, rfl⟩
      have l6 : q6 < 4294967296 := by rw [hq6.out]; exact Nat.lt_of_le_of_lt (Nat.div_le_self _ _) (by assumption)
      have r6 : (x6 : Int) / (u : Int) = (q6 : Int) := by rw [hq6.out]; simp
      obtain ⟨t5, ht5⟩ : ∃ t, Hid (t = q5 % 2 * u) := ⟨_, rfl⟩
      have m5 : t5 < 4294967296 := by rw [ht5.out]; exact Nat.lt_of_le_of_lt (Nat.mul_le_mul_right u (by omega : q5 % 2 ≤ 1)) (by omega)
      have s5 : (q5 : Int) % 2 * (u : Int) = (t5 : Int) := by rw [ht5.out]; simp
      obtain ⟨t6, ht6⟩ : ∃ t, Hid (t = q6 % 2 * u) := ⟨_, rfl⟩
      have m6 : t6 < 4294967296 := by rw [ht6.out]; exact Nat.lt_of_le_of_lt (Nat.mul_le_mul_right u (by omega : q6 % 2 ≤ 1)) (by omega)
      have s6 : (q6 : Int) % 2 * (u : Int) = (t6 : Int) := by rw [ht6.out]; simp
      have hui : (0 : Int) < (u : Int) := by omega
      by_cases h1 : q4 % 2 = 1
      · by_cases h2 : 2 ≤ q0 % 2 + q1 % 2 + q2 % 2
        ·
          have hb1 : ((q4 : Int) % 2 == 1) = true := by rw [beq_iff_eq]; omega
          have hb2 : (2 : Int) ≤ (q0 : Int) % 2 + (q1 : Int) % 2 + (q2 : Int) % 2 := by omega
          go_wp2_with fail
          go_quiet (fail)
          go_wp2
          go_roundw
          case rel =>
            refine ⟨k + 1, 2 * u, y + t5, z + u, _, by omega, rfl, by go_num, by go_num, by go_num, by go_num, by rw [HU.out, Nat.pow_succ]; omega, ?_, ?_⟩
            · rw [Sha.ch_step1 le hlt (by rw [← HU.out, ← hq4.out]; exact h1), HY.out, ht5.out, hq5.out, HU.out]
            · rw [Sha.maj_step1 (by rw [← HU.out, ← hq0.out, ← hq1.out, ← hq2.out]; exact h2), HZ.out, HU.out]
          case measure => simp [intOf]; omega
        ·
          have hb1 : ((q4 : Int) % 2 == 1) = true := by rw [beq_iff_eq]; omega
          have hb2 : ¬ (2 : Int) ≤ (q0 : Int) % 2 + (q1 : Int) % 2 + (q2 : Int) % 2 := by omega
          go_wp2_with fail
          go_quiet (fail)
          go_wp2
          go_roundw
          case rel =>
            refine ⟨k + 1, 2 * u, y + t5, z, _, by omega, rfl, by go_num, by go_num, by go_num, rfl, by rw [HU.out, Nat.pow_succ]; omega, ?_, ?_⟩
            · rw [Sha.ch_step1 le hlt (by rw [← HU.out, ← hq4.out]; exact h1), HY.out, ht5.out, hq5.out, HU.out]
            · rw [Sha.maj_step0 (by rw [← HU.out, ← hq0.out, ← hq1.out, ← hq2.out]; exact h2), HZ.out]
          case measure => simp [intOf]; omega
      · by_cases h2 : 2 ≤ q0 % 2 + q1 % 2 + q2 % 2
        ·
          have hb1 : ((q4 : Int) % 2 == 1) = false := by rw [beq_eq_false_iff_ne]; omega
          have hb2 : (2 : Int) ≤ (q0 : Int) % 2 + (q1 : Int) % 2 + (q2 : Int) % 2 := by omega
          go_wp2_with fail
          go_quiet (fail)
          go_wp2
          go_roundw
          case rel =>
            refine ⟨k + 1, 2 * u, y + t6, z + u, _, by omega, rfl, by go_num, by go_num, by go_num, by go_num, by rw [HU.out, Nat.pow_succ]; omega, ?_, ?_⟩
            · rw [Sha.ch_step0 le hlt (by rw [← HU.out, ← hq4.out]; exact h1), HY.out, ht6.out, hq6.out, HU.out]
            · rw [Sha.maj_step1 (by rw [← HU.out, ← hq0.out, ← hq1.out, ← hq2.out]; exact h2), HZ.out, HU.out]
          case measure => simp [intOf]; omega
        ·
          have hb1 : ((q4 : Int) % 2 == 1) = false := by rw [beq_eq_false_iff_ne]; omega
          have hb2 : ¬ (2 : Int) ≤ (q0 : Int) % 2 + (q1 : Int) % 2 + (q2 : Int) % 2 := by omega
          go_wp2_with fail
          go_quiet (fail)
          go_wp2
          go_roundw
          case rel =>
            refine ⟨k + 1, 2 * u, y + t6, z, _, by omega, rfl, by go_num, by go_num, by go_num, rfl, by rw [HU.out, Nat.pow_succ]; omega, ?_, ?_⟩
            · rw [Sha.ch_step0 le hlt (by rw [← HU.out, ← hq4.out]; exact h1), HY.out, ht6.out, hq6.out, HU.out]
            · rw [Sha.maj_step0 (by rw [← HU.out, ← hq0.out, ← hq1.out, ← hq2.out]; exact h2), HZ.out]
          case measure => simp [intOf]; omega
    · go_wp2
      obtain rfl : k = 32 := by omega
      obtain rfl : y = Sha.ch x4 x5 x6 := by rw [HY.out]; exact Nat.mod_eq_of_lt (Sha.ch_lt le)
      obtain rfl : z = Sha.maj x0 x1 x2 := by rw [HZ.out]; exact Nat.mod_eq_of_lt (Sha.maj_lt la lb)
      exact HQ.out _ _ _ _ _ _ _ _ _ _ _ _ _ _ _ _ _ _ _ _ _ _ _ _ _ _ _ _ _ _ _ _ _ _ _ _ _ _ _ _ _ _ _ _ _ _ _ _ _ _ _ _ _ _ _ _ _ _ _ _
end Go.Proofs.Ytjllhimhiekchaa
