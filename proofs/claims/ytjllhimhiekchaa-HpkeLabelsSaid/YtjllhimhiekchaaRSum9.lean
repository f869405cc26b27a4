/- The reference's digest: the loop that adds the block's state. Words below 2^32. -/
import Derived.Test.YtjllhimhiekchaaRSum8
import Derived.Test.YtjllhimhiekchaaRSum2
/- The reference's digest: the loop over the 64 steps. The state's and the block's words below 2^32. -/
namespace Go.Proofs.Ytjllhimhiekchaa
open Go.RowKit
theorem xor3_64 (a b c : Nat) (ha : a < 4294967296) (hb : b < 4294967296) (hc : c < 4294967296) : bits .xor .u64 (bits .xor .u64 (a : Int) (b : Int)) (c : Int) = (((a ^^^ b) ^^^ c : Nat) : Int) := by
  have h := Sha.xor_lt ha hb
  rw [u64_xor_nat _ _ (by omega) (by omega), u64_xor_nat _ _ (by omega) (by omega)]
theorem nsLit {w : World} {t : TypeId} {k : IntKind} (l : List Nat) (vs : Array Value) (h : vs.toList = l.map (iv k)) {n : Nat} (hn : l.length = n) : Ns k (w.alloc (.cells vs t)) (some ⟨w.heap.size, 0, none⟩) n l :=
  ⟨hn, .inr ⟨w.heap.size, 0, rfl, fun j u hu => by
    rw [Nat.zero_add, (Blk.new w t vs).cell, ← Array.getElem?_toList, h]; exact hu⟩⟩
set_option maxRecDepth 100000 in
set_option maxHeartbeats 2000000 in
theorem lp7 (u0 u1 u3 u4 u5 u6 u7 u8 u9 u10 u11 u12 u13 u15 u16 u17 u18 u19 u22 u23 u24 u25 u26 u27 u28 u29 u30 u31 u32 u33 u34 u35 u36 u37 u38 u39 u40 u41 u42 u43 u44 u45 u46 u47 u48 u49 u50 u51 u52 u53 u54 u55 u56 u57 u58 u59 u60 u61 u62 u63 u64 u65 u66 u67 u68 u69 u70 u71 u72 u73 u74 u75 u76 u77 u78 u79 u80 u81 u82 u83 u84 u85 u86 u87 u88 u89 u90 u91 u92 u93 u94 u95 u96 u97 u98 u99 u100 u101 u102 u103 u104 u105 u106 u107 u108 u109 u110 u111 u112 u113 u114 u115 u116 u117 u118 u119 u120 u121 u122 u123 u124 u125 u126 u127 u128 u129 u130 u131 u132 u133 u134 u135 u136 u137 u138 u139 u140 u141 u142 u143 u144 u145 u146 u147 u148 u149 u150 u151 u152 u153 u154 u155 u156 u157 u158 u159 u160 u161 u162 u163 u164 u165 u166 u167 u168 u169 u170 u171 u172 u173 u174 u175 u176 u177 u178 u179 u180 u181 u182 u183 u184 u185 u186 u187 u188 u189 u190 u191 u192 u193 u194 u195 u196 u197 u198 u199 u200 u201 u202 u203 u204 u205 u206 u207 u208 u209 u210 u211 u212 u213 u214 u215 u216 u217 u218 u219 u220 u221 u222 u223 u224 u225 u226 u227 u228 u229 u230 u231 u232 u233 u234 u235 u236 u237 u238 u239 u240 u241 u242 u243 u244 u245 u246 u247 u248 u249 u250 u251 u252 u253 u254 u255 u256 u257 u258 u259 u260 u261 u262 u263 u264 u265 u266 u267 u268 u269 u270 u271 u272 u273 u274 u275 u276 u277 u278 u279 u280 u281 u282 u283 u284 u285 u286 u287 u288 u289 u290 u291 u292 u293 u294 u295 u296 u297 u298 u299 u300 u301 u302 u303 u304 u305 u306 u307 u308 u309 u310 u311 u312 u313 u314 u315 u316 u317 u318 u319 u320 u321 u322 u323 u324 u325 u326 u327 u328 u329 u330 u331 u332 u333 u334 u335 u336 u337 u338 u339 u340 u341 u342 u343 u344 u345 u346 u347 u348 u349 u350 u351 : Value) (A2 A14 : Option Addr) (g cv c2 c14 : Nat) (W : List Nat) (s : Sha.S8) (w : World) (Q : Exit → Act → World → Prop)
    (hs : s.ok) (hW : ∀ x ∈ W, x < 4294967296) (hv : Ns .u64 w (some ⟨g, 0, none⟩) 8 s.list) (hk : Ns .u64 w A2 64 Sha.K) (hw : Ns .u64 w A14 64 W)
    (hQ : ∀ (u21 u22 u23 u24 u25 u26 u27 u165 u166 u167 u168 u169 u170 u171 u172 u173 u174 u175 u176 u177 u178 u179 u180 u181 u182 u183 u184 u185 u186 u187 u188 u189 u190 u191 u192 u193 u194 u195 u196 u197 u198 u199 u200 u201 u202 u203 u204 u205 u206 u207 u208 u209 u210 u211 u212 u213 u214 u215 u216 u217 u218 u219 u220 u221 u222 u223 u224 u225 u226 u227 u228 u229 u230 u231 u232 u233 u234 u235 u236 u237 u238 u239 u240 u241 u242 u243 u244 u245 u246 u247 u248 u249 u250 u251 u252 u253 u254 u255 u256 u257 u258 u259 u260 u261 u262 u263 u264 u265 u266 u267 u268 u269 u270 u271 u272 u273 u274 u275 u276 u277 u278 u279 u280 u281 u282 u283 u284 u285 u286 u287 u288 u289 u290 u291 u292 u293 u294 u295 u296 u297 u298 u299 u300 : Value) (g' cv' : Nat) (w' : World), Below w.heap.size w w' → (g' = g ∨ w.heap.size ≤ g') → Ns .u64 w' (some ⟨g', 0, none⟩) 8 (Sha.rounds W s 64).list →
      Q (.exit 12) { tmps := List.toArray (u0 :: u1 :: (.slice A2 64 c2) :: u3 :: u4 :: u5 :: u6 :: u7 :: u8 :: u9 :: u10 :: u11 :: u12 :: u13 :: (.slice A14 64 c14) :: u15 :: u16 :: u17 :: u18 :: u19 :: (.slice (some ⟨g', 0, none⟩) 8 cv') :: u21 :: u22 :: u23 :: u24 :: u25 :: u26 :: u27 :: u28 :: u29 :: u30 :: u31 :: u32 :: u33 :: u34 :: u35 :: u36 :: u37 :: u38 :: u39 :: u40 :: u41 :: u42 :: u43 :: u44 :: u45 :: u46 :: u47 :: u48 :: u49 :: u50 :: u51 :: u52 :: u53 :: u54 :: u55 :: u56 :: u57 :: u58 :: u59 :: u60 :: u61 :: u62 :: u63 :: u64 :: u65 :: u66 :: u67 :: u68 :: u69 :: u70 :: u71 :: u72 :: u73 :: u74 :: u75 :: u76 :: u77 :: u78 :: u79 :: u80 :: u81 :: u82 :: u83 :: u84 :: u85 :: u86 :: u87 :: u88 :: u89 :: u90 :: u91 :: u92 :: u93 :: u94 :: u95 :: u96 :: u97 :: u98 :: u99 :: u100 :: u101 :: u102 :: u103 :: u104 :: u105 :: u106 :: u107 :: u108 :: u109 :: u110 :: u111 :: u112 :: u113 :: u114 :: u115 :: u116 :: u117 :: u118 :: u119 :: u120 :: u121 :: u122 :: u123 :: u124 :: u125 :: u126 :: u127 :: u128 :: u129 :: u130 :: u131 :: u132 :: u133 :: u134 :: u135 :: u136 :: u137 :: u138 :: u139 :: u140 :: u141 :: u142 :: u143 :: u144 :: u145 :: u146 :: u147 :: u148 :: u149 :: u150 :: u151 :: u152 :: u153 :: u154 :: u155 :: u156 :: u157 :: u158 :: u159 :: u160 :: u161 :: u162 :: u163 :: u164 :: u165 :: u166 :: u167 :: u168 :: u169 :: u170 :: u171 :: u172 :: u173 :: u174 :: u175 :: u176 :: u177 :: u178 :: u179 :: u180 :: u181 :: u182 :: u183 :: u184 :: u185 :: u186 :: u187 :: u188 :: u189 :: u190 :: u191 :: u192 :: u193 :: u194 :: u195 :: u196 :: u197 :: u198 :: u199 :: u200 :: u201 :: u202 :: u203 :: u204 :: u205 :: u206 :: u207 :: u208 :: u209 :: u210 :: u211 :: u212 :: u213 :: u214 :: u215 :: u216 :: u217 :: u218 :: u219 :: u220 :: u221 :: u222 :: u223 :: u224 :: u225 :: u226 :: u227 :: u228 :: u229 :: u230 :: u231 :: u232 :: u233 :: u234 :: u235 :: u236 :: u237 :: u238 :: u239 :: u240 :: u241 :: u242 :: u243 :: u244 :: u245 :: u246 :: u247 :: u248 :: u249 :: u250 :: u251 :: u252 :: u253 :: u254 :: u255 :: u256 :: u257 :: u258 :: u259 :: u260 :: u261 :: u262 :: u263 :: u264 :: u265 :: u266 :: u267 :: u268 :: u269 :: u270 :: u271 :: u272 :: u273 :: u274 :: u275 :: u276 :: u277 :: u278 :: u279 :: u280 :: u281 :: u282 :: u283 :: u284 :: u285 :: u286 :: u287 :: u288 :: u289 :: u290 :: u291 :: u292 :: u293 :: u294 :: u295 :: u296 :: u297 :: u298 :: u299 :: u300 :: u301 :: u302 :: u303 :: u304 :: u305 :: u306 :: u307 :: u308 :: u309 :: u310 :: u311 :: u312 :: u313 :: u314 :: u315 :: u316 :: u317 :: u318 :: u319 :: u320 :: u321 :: u322 :: u323 :: u324 :: u325 :: u326 :: u327 :: u328 :: u329 :: u330 :: u331 :: u332 :: u333 :: u334 :: u335 :: u336 :: u337 :: u338 :: u339 :: u340 :: u341 :: u342 :: u343 :: u344 :: u345 :: u346 :: u347 :: u348 :: u349 :: u350 :: u351 :: []), defers := [] } w') :
    Code.wp Try.prog (nthLoop Try.f85 6) Q { tmps := List.toArray (u0 :: u1 :: (.slice A2 64 c2) :: u3 :: u4 :: u5 :: u6 :: u7 :: u8 :: u9 :: u10 :: u11 :: u12 :: u13 :: (.slice A14 64 c14) :: u15 :: u16 :: u17 :: u18 :: u19 :: (.slice (some ⟨g, 0, none⟩) 8 cv) :: (.int .i64 0) :: u22 :: u23 :: u24 :: u25 :: u26 :: u27 :: u28 :: u29 :: u30 :: u31 :: u32 :: u33 :: u34 :: u35 :: u36 :: u37 :: u38 :: u39 :: u40 :: u41 :: u42 :: u43 :: u44 :: u45 :: u46 :: u47 :: u48 :: u49 :: u50 :: u51 :: u52 :: u53 :: u54 :: u55 :: u56 :: u57 :: u58 :: u59 :: u60 :: u61 :: u62 :: u63 :: u64 :: u65 :: u66 :: u67 :: u68 :: u69 :: u70 :: u71 :: u72 :: u73 :: u74 :: u75 :: u76 :: u77 :: u78 :: u79 :: u80 :: u81 :: u82 :: u83 :: u84 :: u85 :: u86 :: u87 :: u88 :: u89 :: u90 :: u91 :: u92 :: u93 :: u94 :: u95 :: u96 :: u97 :: u98 :: u99 :: u100 :: u101 :: u102 :: u103 :: u104 :: u105 :: u106 :: u107 :: u108 :: u109 :: u110 :: u111 :: u112 :: u113 :: u114 :: u115 :: u116 :: u117 :: u118 :: u119 :: u120 :: u121 :: u122 :: u123 :: u124 :: u125 :: u126 :: u127 :: u128 :: u129 :: u130 :: u131 :: u132 :: u133 :: u134 :: u135 :: u136 :: u137 :: u138 :: u139 :: u140 :: u141 :: u142 :: u143 :: u144 :: u145 :: u146 :: u147 :: u148 :: u149 :: u150 :: u151 :: u152 :: u153 :: u154 :: u155 :: u156 :: u157 :: u158 :: u159 :: u160 :: u161 :: u162 :: u163 :: u164 :: u165 :: u166 :: u167 :: u168 :: u169 :: u170 :: u171 :: u172 :: u173 :: u174 :: u175 :: u176 :: u177 :: u178 :: u179 :: u180 :: u181 :: u182 :: u183 :: u184 :: u185 :: u186 :: u187 :: u188 :: u189 :: u190 :: u191 :: u192 :: u193 :: u194 :: u195 :: u196 :: u197 :: u198 :: u199 :: u200 :: u201 :: u202 :: u203 :: u204 :: u205 :: u206 :: u207 :: u208 :: u209 :: u210 :: u211 :: u212 :: u213 :: u214 :: u215 :: u216 :: u217 :: u218 :: u219 :: u220 :: u221 :: u222 :: u223 :: u224 :: u225 :: u226 :: u227 :: u228 :: u229 :: u230 :: u231 :: u232 :: u233 :: u234 :: u235 :: u236 :: u237 :: u238 :: u239 :: u240 :: u241 :: u242 :: u243 :: u244 :: u245 :: u246 :: u247 :: u248 :: u249 :: u250 :: u251 :: u252 :: u253 :: u254 :: u255 :: u256 :: u257 :: u258 :: u259 :: u260 :: u261 :: u262 :: u263 :: u264 :: u265 :: u266 :: u267 :: u268 :: u269 :: u270 :: u271 :: u272 :: u273 :: u274 :: u275 :: u276 :: u277 :: u278 :: u279 :: u280 :: u281 :: u282 :: u283 :: u284 :: u285 :: u286 :: u287 :: u288 :: u289 :: u290 :: u291 :: u292 :: u293 :: u294 :: u295 :: u296 :: u297 :: u298 :: u299 :: u300 :: u301 :: u302 :: u303 :: u304 :: u305 :: u306 :: u307 :: u308 :: u309 :: u310 :: u311 :: u312 :: u313 :: u314 :: u315 :: u316 :: u317 :: u318 :: u319 :: u320 :: u321 :: u322 :: u323 :: u324 :: u325 :: u326 :: u327 :: u328 :: u329 :: u330 :: u331 :: u332 :: u333 :: u334 :: u335 :: u336 :: u337 :: u338 :: u339 :: u340 :: u341 :: u342 :: u343 :: u344 :: u345 :: u346 :: u347 :: u348 :: u349 :: u350 :: u351 :: []), defers := [] } w := by
  have HQ := Lib.hid hQ; have HV := Lib.hid hv; have HK := Lib.hid hk; have HW := Lib.hid hw; have HWL := Lib.hid hW
  clear hQ hv hk hw hW
  conv => arg 2; whnf
  go_loopw [20, 21] (fun v i wr => ∃ t g' cv' : Nat, t ≤ 64 ∧ i = .int .i64 t ∧ v = .slice (some ⟨g', 0, none⟩) 8 cv' ∧ Below w.heap.size w wr ∧ (g' = g ∨ w.heap.size ≤ g') ∧ Ns .u64 wr (some ⟨g', 0, none⟩) 8 (Sha.rounds W s t).list) (fun _ i _ => 64 - (intOf i).toNat)
  case atStart => exact ⟨0, g, cv, by omega, rfl, rfl, Below.refl _ _, .inl rfl, HV.out⟩
  case round =>
    obtain ⟨t, g', cv', ht, rfl, rfl, hb, hgg, hv⟩ := hrel
    have HGG := Lib.hid hgg
    clear hgg
    have HB := Lib.hid hb; have HV' := Lib.hid hv
    clear hb hv HV
    by_cases hlt : t < 64
    · obtain ⟨R, hR⟩ : ∃ R, Hid (R = Sha.rounds W s t) := ⟨_, rfl⟩
      have hok : R.ok := by rw [hR.out]; exact Sha.rounds_ok _ hs _
      have hv' : Hid (Ns .u64 wr (some ⟨g', 0, none⟩) 8 R.list) := by rw [hR.out]; exact HV'.out
      obtain ⟨a, b, c, d, e, f, g8, hh⟩ := R
      obtain ⟨la, lb, lc, ld, le, lf, lg, lh⟩ := hok
      have HV2 : Hid (Ns .u64 wr (some ⟨g', 0, none⟩) 8 [a, b, c, d, e, f, g8, hh]) := hv'
      clear HV' hv'
      obtain ⟨kt, hkt⟩ : ∃ q, Hid (q = Sha.K.getD t 0) := ⟨_, rfl⟩
      obtain ⟨wt, hwt⟩ : ∃ q, Hid (q = W.getD t 0) := ⟨_, rfl⟩
      have lk : kt < 4294967296 := by rw [hkt.out]; exact Sha.getD_lt Sha.K_lt _
      have lw : wt < 4294967296 := by rw [hwt.out]; exact Sha.getD_lt HWL.out _
      obtain ⟨kb, ko, kt', rfl, hk', _, ck⟩ := (HK.out.below HB.out).get (i := t) (by omega)
      obtain ⟨wb, wo, wt', rfl, hw', _, cw⟩ := (HW.out.below HB.out).get (i := t) (by omega)
      obtain rfl : kt = kt' := hkt.out.trans hk'.out.symm
      obtain rfl : wt = wt' := hwt.out.trans hw'.out.symm
      obtain ⟨x0, y0, c0⟩ := HV2.out.getAt (i := 0) (by omega); obtain rfl : x0 = a := y0
      obtain ⟨x1, y1, c1⟩ := HV2.out.getAt (i := 1) (by omega); obtain rfl : x1 = b := y1
      obtain ⟨x2, y2, cc2⟩ := HV2.out.getAt (i := 2) (by omega); obtain rfl : x2 = c := y2
      obtain ⟨x3, y3, c3⟩ := HV2.out.getAt (i := 3) (by omega); obtain rfl : x3 = d := y3
      obtain ⟨x4, y4, c4⟩ := HV2.out.getAt (i := 4) (by omega); obtain rfl : x4 = e := y4
      obtain ⟨x5, y5, c5⟩ := HV2.out.getAt (i := 5) (by omega); obtain rfl : x5 = f := y5
      obtain ⟨x6, y6, c6⟩ := HV2.out.getAt (i := 6) (by omega); obtain rfl : x6 = g8 := y6
      obtain ⟨x7, y7, c7⟩ := HV2.out.getAt (i := 7) (by omega); obtain rfl : x7 = hh := y7
      obtain ⟨C, hC⟩ : ∃ q, Hid (q = Sha.ch x4 x5 x6) := ⟨_, rfl⟩
      obtain ⟨M, hM⟩ : ∃ q, Hid (q = Sha.maj x0 x1 x2) := ⟨_, rfl⟩
      obtain ⟨S1, hS1⟩ : ∃ q, Hid (q = Sha.S1 x4) := ⟨_, rfl⟩
      obtain ⟨S0, hS0⟩ : ∃ q, Hid (q = Sha.S0 x0) := ⟨_, rfl⟩
      have lC : C < 4294967296 := by rw [hC.out]; exact Sha.ch_lt le
      have lM : M < 4294967296 := by rw [hM.out]; exact Sha.maj_lt la lb
      have lS1 : S1 < 4294967296 := by rw [hS1.out]; exact Sha.S1_lt le
      have lS0 : S0 < 4294967296 := by rw [hS0.out]; exact Sha.S0_lt la
      have E1 : bits .xor .u64 (bits .xor .u64 ((Sha.rotr x4 6 : Nat) : Int) ((Sha.rotr x4 11 : Nat) : Int)) ((Sha.rotr x4 25 : Nat) : Int) = (S1 : Int) := by
        rw [hS1.out]; exact xor3_64 _ _ _ (Sha.rotr_lt le (by omega)) (Sha.rotr_lt le (by omega)) (Sha.rotr_lt le (by omega))
      have E0 : bits .xor .u64 (bits .xor .u64 ((Sha.rotr x0 2 : Nat) : Int) ((Sha.rotr x0 13 : Nat) : Int)) ((Sha.rotr x0 22 : Nat) : Int) = (S0 : Int) := by
        rw [hS0.out]; exact xor3_64 _ _ _ (Sha.rotr_lt la (by omega)) (Sha.rotr_lt la (by omega)) (Sha.rotr_lt la (by omega))
      have hti : (t : Int) < 64 := by omega
      go_wp2_with (refine lp8 _ _ _ _ _ _ _ _ _ _ _ _ _ _ _ _ _ _ _ _ _ _ _ _ _ _ _ _ _ _ _ _ _ _ _ _ _ _ _ _ _ _ _ _ _ _ _ _ _ _ _ _ _ _ _ _ _ _ _ _ _ _ _ _ _ _ _ _ _ _ _ _ _ _ _ _ _ _ _ _ _ _ _ _ _ _ _ _ _ _ _ _ _ _ _ _ _ _ _ _ _ _ _ _ _ _ _ _ _ _ _ _ _ _ _ _ _ _ _ _ _ _ _ _ _ _ _ _ _ _ _ _ _ _ _ _ _ _ _ _ _ _ _ _ _ _ _ _ _ _ _ _ _ _ _ _ _ _ _ _ _ _ _ _ _ _ _ _ _ _ _ _ _ _ _ _ _ _ _ _ _ _ _ _ _ _ _ _ _ _ _ _ _ _ _ _ _ _ _ _ _ _ _ _ _ _ _ _ _ _ _ _ _ _ _ _ _ _ _ _ _ _ _ _ _ _ _ _ _ _ _ _ _ _ _ _ _ _ _ _ _ _ _ _ _ _ _ _ _ _ _ _ _ _ _ _ _ _ _ _ _ _ _ _ _ _ _ _ _ _ _ _ _ _ _ _ _ _ _ _ _ _ _ _ _ _ _ _ _ _ _ _ _ _ _ _ _ _ _ _ _ _ _ _ _ _ _ _ _ _ _ _ _ _ _ _ _ _ _ _ _ _ _ _ _ _ _ _ _ _ _ _ _ _ _ _ _ _ _ _ _ _ _ _ _ _ _ _ _ x0 x1 x2 x3 x4 x5 x6 x7 _ _ la lb lc le lf lg HV2.out ?_; rw [← hC.out, ← hM.out]; intro u24 u25 u169 u170 u171 u172 u173 u174 u175 u176 u177 u178 u179 u180 u181 u182 u183 u184 u185 u186 u187 u188 u189 u190 u191 u192 u193 u194 u195 u196 u197 u198 u199 u200 u201 u202 u203 u204 u205 u206 u207 u208 u209 u210 u211 u212 u213 u214 u215 u216 u217 u218 u219 u220 u221 u222 u223 u224 u225 n1)
      go_quiet ((go_at_call 97; first | exact qsame (turn_lit _ _ _ (by assumption) (by omega) (by omega)) | exact qsame_add (turn_lit _ _ _ (by assumption) (by omega) (by omega))))
      obtain ⟨n2, rfl⟩ : ∃ n : Nat, n = nq := ⟨_, rfl⟩
      go_wp2_with fail
      go_quiet ((go_at_call 97; first | exact qsame (turn_lit _ _ _ (by assumption) (by omega) (by omega)) | exact qsame_add (turn_lit _ _ _ (by assumption) (by omega) (by omega))))
      obtain ⟨n3, rfl⟩ : ∃ n : Nat, n = nq := ⟨_, rfl⟩
      go_wp2_with fail
      generalize hwy : World.drewN _ n3 = wy
      have HBy : Hid (Below w.heap.size w wy) := by rw [← hwy]; exact ⟨HB.out.os, HB.out.tape, HB.out.output, HB.out.size, HB.out.block⟩
      have hcell : ∀ p, wy.cell? p = wr.cell? p := fun p => by rw [← hwy]; rfl
      simp only [← hcell] at c0 c1 cc2 c3 c4 c5 c6
      clear hcell hwy HB HV2 c7 ck cw E0 E1
      go_still_tail 28, (by kernel_rfl)
      change wpList _ _ _ _ _ wy.drew
      go_wp2
      go_roundw
      case rel =>
        refine ⟨t + 1, _, _, by omega, by go_num, rfl, (HBy.out.drew).alloc HBy.out.size _, .inr HBy.out.size, nsLit (w := wy.drew) _ _ ?_ rfl⟩
        have e1 : Sha.rounds W s (t + 1) = Sha.rnd ⟨x0, x1, x2, x3, x4, x5, x6, x7⟩ kt wt := by rw [hR.out, hkt.out, hwt.out]; rfl
        rw [e1]
        simp only [Sha.rnd, Sha.S8.list, Sha.T1, Sha.T2, ← hC.out, ← hM.out, ← hS1.out, ← hS0.out, List.map_cons, List.map_nil, iv]
        simp
      case measure => simp [intOf]; omega
    · go_wp2
      have hv64 : Ns .u64 wr (some ⟨g', 0, none⟩) 8 (Sha.rounds W s 64).list := by
        have h := HV'.out
        rw [show t = 64 from by omega] at h
        exact h
      exact HQ.out _ _ _ _ _ _ _ _ _ _ _ _ _ _ _ _ _ _ _ _ _ _ _ _ _ _ _ _ _ _ _ _ _ _ _ _ _ _ _ _ _ _ _ _ _ _ _ _ _ _ _ _ _ _ _ _ _ _ _ _ _ _ _ _ _ _ _ _ _ _ _ _ _ _ _ _ _ _ _ _ _ _ _ _ _ _ _ _ _ _ _ _ _ _ _ _ _ _ _ _ _ _ _ _ _ _ _ _ _ _ _ _ _ _ _ _ _ _ _ _ _ _ _ _ _ _ _ _ _ _ _ _ _ _ _ _ _ _ _ _ _ _ _ _ _ _ HB.out HGG.out hv64
end Go.Proofs.Ytjllhimhiekchaa

namespace Go.Proofs.Ytjllhimhiekchaa
open Go.RowKit
set_option maxRecDepth 100000 in
set_option maxHeartbeats 2000000 in
theorem lp9 (u0 u1 u2 u3 u4 u5 u6 u8 u9 u10 u11 u12 u13 u14 u15 u16 u17 u18 u19 u21 u22 u23 u24 u25 u26 u27 u29 u30 u31 u32 u33 u34 u35 u36 u37 u38 u39 u40 u41 u42 u43 u44 u45 u46 u47 u48 u49 u50 u51 u52 u53 u54 u55 u56 u57 u58 u59 u60 u61 u62 u63 u64 u65 u66 u67 u68 u69 u70 u71 u72 u73 u74 u75 u76 u77 u78 u79 u80 u81 u82 u83 u84 u85 u86 u87 u88 u89 u90 u91 u92 u93 u94 u95 u96 u97 u98 u99 u100 u101 u102 u103 u104 u105 u106 u107 u108 u109 u110 u111 u112 u113 u114 u115 u116 u117 u118 u119 u120 u121 u122 u123 u124 u125 u126 u127 u128 u129 u130 u131 u132 u133 u134 u135 u136 u137 u138 u139 u140 u141 u142 u143 u144 u145 u146 u147 u148 u149 u150 u151 u152 u153 u154 u155 u156 u157 u158 u159 u160 u161 u162 u163 u164 u165 u166 u167 u168 u169 u170 u171 u172 u173 u174 u175 u176 u177 u178 u179 u180 u181 u182 u183 u184 u185 u186 u187 u188 u189 u190 u191 u192 u193 u194 u195 u196 u197 u198 u199 u200 u201 u202 u203 u204 u205 u206 u207 u208 u209 u210 u211 u212 u213 u214 u215 u216 u217 u218 u219 u220 u221 u222 u223 u224 u225 u226 u227 u228 u229 u230 u231 u232 u233 u234 u235 u236 u237 u238 u239 u240 u241 u242 u243 u244 u245 u246 u247 u248 u249 u250 u251 u252 u253 u254 u255 u256 u257 u258 u259 u260 u261 u262 u263 u264 u265 u266 u267 u268 u269 u270 u271 u272 u273 u274 u275 u276 u277 u278 u279 u280 u281 u282 u283 u284 u285 u286 u287 u288 u289 u290 u291 u292 u293 u294 u295 u296 u297 u298 u299 u300 u301 u302 u303 u304 u305 u306 u307 u308 u309 u310 u311 u312 u313 u314 u315 u316 u317 u318 u319 u320 u321 u322 u323 u324 u325 u326 u327 u328 u329 u330 u331 u332 u333 u334 u335 u336 u337 u338 u339 u340 u341 u342 u343 u344 u345 u346 u347 u348 u349 u350 u351 : Value) (gh ch g cv B : Nat) (l m : List Nat) (w : World) (Q : Exit → Act → World → Prop)
    (hl : l.length = 8) (hm : m.length = 8) (okl : ∀ i, l.getD i 0 < 4294967296) (okm : ∀ i, m.getD i 0 < 4294967296) (hne : gh ≠ g)
    (hh : OwnN w B (some ⟨gh, 0, none⟩) 8 ch l) (hv : Ns .u64 w (some ⟨g, 0, none⟩) 8 m)
    (hQ : ∀ (u28 u301 u302 u303 u304 u305 u306 u307 u308 u309 u310 u311 u312 u313 u314 u315 u316 u317 : Value) (w' : World), w.grownBy w' (some gh) → OwnN w' B (some ⟨gh, 0, none⟩) 8 ch (Sha.mixl l m 8) →
      Q (.exit 16) { tmps := List.toArray (u0 :: u1 :: u2 :: u3 :: u4 :: u5 :: u6 :: (.slice (some ⟨gh, 0, none⟩) 8 ch) :: u8 :: u9 :: u10 :: u11 :: u12 :: u13 :: u14 :: u15 :: u16 :: u17 :: u18 :: u19 :: (.slice (some ⟨g, 0, none⟩) 8 cv) :: u21 :: u22 :: u23 :: u24 :: u25 :: u26 :: u27 :: u28 :: u29 :: u30 :: u31 :: u32 :: u33 :: u34 :: u35 :: u36 :: u37 :: u38 :: u39 :: u40 :: u41 :: u42 :: u43 :: u44 :: u45 :: u46 :: u47 :: u48 :: u49 :: u50 :: u51 :: u52 :: u53 :: u54 :: u55 :: u56 :: u57 :: u58 :: u59 :: u60 :: u61 :: u62 :: u63 :: u64 :: u65 :: u66 :: u67 :: u68 :: u69 :: u70 :: u71 :: u72 :: u73 :: u74 :: u75 :: u76 :: u77 :: u78 :: u79 :: u80 :: u81 :: u82 :: u83 :: u84 :: u85 :: u86 :: u87 :: u88 :: u89 :: u90 :: u91 :: u92 :: u93 :: u94 :: u95 :: u96 :: u97 :: u98 :: u99 :: u100 :: u101 :: u102 :: u103 :: u104 :: u105 :: u106 :: u107 :: u108 :: u109 :: u110 :: u111 :: u112 :: u113 :: u114 :: u115 :: u116 :: u117 :: u118 :: u119 :: u120 :: u121 :: u122 :: u123 :: u124 :: u125 :: u126 :: u127 :: u128 :: u129 :: u130 :: u131 :: u132 :: u133 :: u134 :: u135 :: u136 :: u137 :: u138 :: u139 :: u140 :: u141 :: u142 :: u143 :: u144 :: u145 :: u146 :: u147 :: u148 :: u149 :: u150 :: u151 :: u152 :: u153 :: u154 :: u155 :: u156 :: u157 :: u158 :: u159 :: u160 :: u161 :: u162 :: u163 :: u164 :: u165 :: u166 :: u167 :: u168 :: u169 :: u170 :: u171 :: u172 :: u173 :: u174 :: u175 :: u176 :: u177 :: u178 :: u179 :: u180 :: u181 :: u182 :: u183 :: u184 :: u185 :: u186 :: u187 :: u188 :: u189 :: u190 :: u191 :: u192 :: u193 :: u194 :: u195 :: u196 :: u197 :: u198 :: u199 :: u200 :: u201 :: u202 :: u203 :: u204 :: u205 :: u206 :: u207 :: u208 :: u209 :: u210 :: u211 :: u212 :: u213 :: u214 :: u215 :: u216 :: u217 :: u218 :: u219 :: u220 :: u221 :: u222 :: u223 :: u224 :: u225 :: u226 :: u227 :: u228 :: u229 :: u230 :: u231 :: u232 :: u233 :: u234 :: u235 :: u236 :: u237 :: u238 :: u239 :: u240 :: u241 :: u242 :: u243 :: u244 :: u245 :: u246 :: u247 :: u248 :: u249 :: u250 :: u251 :: u252 :: u253 :: u254 :: u255 :: u256 :: u257 :: u258 :: u259 :: u260 :: u261 :: u262 :: u263 :: u264 :: u265 :: u266 :: u267 :: u268 :: u269 :: u270 :: u271 :: u272 :: u273 :: u274 :: u275 :: u276 :: u277 :: u278 :: u279 :: u280 :: u281 :: u282 :: u283 :: u284 :: u285 :: u286 :: u287 :: u288 :: u289 :: u290 :: u291 :: u292 :: u293 :: u294 :: u295 :: u296 :: u297 :: u298 :: u299 :: u300 :: u301 :: u302 :: u303 :: u304 :: u305 :: u306 :: u307 :: u308 :: u309 :: u310 :: u311 :: u312 :: u313 :: u314 :: u315 :: u316 :: u317 :: u318 :: u319 :: u320 :: u321 :: u322 :: u323 :: u324 :: u325 :: u326 :: u327 :: u328 :: u329 :: u330 :: u331 :: u332 :: u333 :: u334 :: u335 :: u336 :: u337 :: u338 :: u339 :: u340 :: u341 :: u342 :: u343 :: u344 :: u345 :: u346 :: u347 :: u348 :: u349 :: u350 :: u351 :: []), defers := [] } w') :
    Code.wp Try.prog (nthLoop Try.f85 8) Q { tmps := List.toArray (u0 :: u1 :: u2 :: u3 :: u4 :: u5 :: u6 :: (.slice (some ⟨gh, 0, none⟩) 8 ch) :: u8 :: u9 :: u10 :: u11 :: u12 :: u13 :: u14 :: u15 :: u16 :: u17 :: u18 :: u19 :: (.slice (some ⟨g, 0, none⟩) 8 cv) :: u21 :: u22 :: u23 :: u24 :: u25 :: u26 :: u27 :: (.int .i64 0) :: u29 :: u30 :: u31 :: u32 :: u33 :: u34 :: u35 :: u36 :: u37 :: u38 :: u39 :: u40 :: u41 :: u42 :: u43 :: u44 :: u45 :: u46 :: u47 :: u48 :: u49 :: u50 :: u51 :: u52 :: u53 :: u54 :: u55 :: u56 :: u57 :: u58 :: u59 :: u60 :: u61 :: u62 :: u63 :: u64 :: u65 :: u66 :: u67 :: u68 :: u69 :: u70 :: u71 :: u72 :: u73 :: u74 :: u75 :: u76 :: u77 :: u78 :: u79 :: u80 :: u81 :: u82 :: u83 :: u84 :: u85 :: u86 :: u87 :: u88 :: u89 :: u90 :: u91 :: u92 :: u93 :: u94 :: u95 :: u96 :: u97 :: u98 :: u99 :: u100 :: u101 :: u102 :: u103 :: u104 :: u105 :: u106 :: u107 :: u108 :: u109 :: u110 :: u111 :: u112 :: u113 :: u114 :: u115 :: u116 :: u117 :: u118 :: u119 :: u120 :: u121 :: u122 :: u123 :: u124 :: u125 :: u126 :: u127 :: u128 :: u129 :: u130 :: u131 :: u132 :: u133 :: u134 :: u135 :: u136 :: u137 :: u138 :: u139 :: u140 :: u141 :: u142 :: u143 :: u144 :: u145 :: u146 :: u147 :: u148 :: u149 :: u150 :: u151 :: u152 :: u153 :: u154 :: u155 :: u156 :: u157 :: u158 :: u159 :: u160 :: u161 :: u162 :: u163 :: u164 :: u165 :: u166 :: u167 :: u168 :: u169 :: u170 :: u171 :: u172 :: u173 :: u174 :: u175 :: u176 :: u177 :: u178 :: u179 :: u180 :: u181 :: u182 :: u183 :: u184 :: u185 :: u186 :: u187 :: u188 :: u189 :: u190 :: u191 :: u192 :: u193 :: u194 :: u195 :: u196 :: u197 :: u198 :: u199 :: u200 :: u201 :: u202 :: u203 :: u204 :: u205 :: u206 :: u207 :: u208 :: u209 :: u210 :: u211 :: u212 :: u213 :: u214 :: u215 :: u216 :: u217 :: u218 :: u219 :: u220 :: u221 :: u222 :: u223 :: u224 :: u225 :: u226 :: u227 :: u228 :: u229 :: u230 :: u231 :: u232 :: u233 :: u234 :: u235 :: u236 :: u237 :: u238 :: u239 :: u240 :: u241 :: u242 :: u243 :: u244 :: u245 :: u246 :: u247 :: u248 :: u249 :: u250 :: u251 :: u252 :: u253 :: u254 :: u255 :: u256 :: u257 :: u258 :: u259 :: u260 :: u261 :: u262 :: u263 :: u264 :: u265 :: u266 :: u267 :: u268 :: u269 :: u270 :: u271 :: u272 :: u273 :: u274 :: u275 :: u276 :: u277 :: u278 :: u279 :: u280 :: u281 :: u282 :: u283 :: u284 :: u285 :: u286 :: u287 :: u288 :: u289 :: u290 :: u291 :: u292 :: u293 :: u294 :: u295 :: u296 :: u297 :: u298 :: u299 :: u300 :: u301 :: u302 :: u303 :: u304 :: u305 :: u306 :: u307 :: u308 :: u309 :: u310 :: u311 :: u312 :: u313 :: u314 :: u315 :: u316 :: u317 :: u318 :: u319 :: u320 :: u321 :: u322 :: u323 :: u324 :: u325 :: u326 :: u327 :: u328 :: u329 :: u330 :: u331 :: u332 :: u333 :: u334 :: u335 :: u336 :: u337 :: u338 :: u339 :: u340 :: u341 :: u342 :: u343 :: u344 :: u345 :: u346 :: u347 :: u348 :: u349 :: u350 :: u351 :: []), defers := [] } w := by
  have HQ := Lib.hid hQ; have HH := Lib.hid hh; have HV := Lib.hid hv; have H8l := Lib.hid hl; have H8m := Lib.hid hm; have OKL := Lib.hid okl; have OKM := Lib.hid okm
  clear hQ hh hv hl hm okl okm
  conv => arg 2; whnf
  go_loopw [28] (fun i wr => ∃ k : Nat, k ≤ 8 ∧ i = .int .i64 k ∧ w.grownBy wr (some gh) ∧ OwnN wr B (some ⟨gh, 0, none⟩) 8 ch (Sha.mixl l m k)) (fun i _ => 8 - (intOf i).toNat)
  case atStart => exact ⟨0, by omega, rfl, World.grownBy.refl _ _, by rw [Sha.mixl_zero]; exact HH.out⟩
  case round =>
    obtain ⟨k, hk, rfl, hg, ho⟩ := hrel
    have HG := Lib.hid hg; have HO := Lib.hid ho
    clear hg ho HH
    by_cases hlt : k < 8
    · obtain ⟨p, hp⟩ : ∃ p, Hid (p = l.getD k 0) := ⟨_, rfl⟩
      obtain ⟨q, hq⟩ : ∃ q, Hid (q = m.getD k 0) := ⟨_, rfl⟩
      have lp : p < 4294967296 := by rw [hp.out]; exact OKL.out _
      have lq : q < 4294967296 := by rw [hq.out]; exact OKM.out _
      obtain ⟨p', hp', c1⟩ := HO.out.ns.getAt (i := k) hlt
      obtain rfl : p = p' := by rw [hp.out, hp'.out, Sha.mixl_get (H8l.out.trans H8m.out.symm) (by rw [H8l.out]; exact hlt)]
      obtain ⟨q', hq', c2⟩ := (HV.out.grown HG.out (fun b off h => by injection h with h; injection h with h; omega)).getAt (i := k) hlt
      obtain rfl : q = q' := hq.out.trans hq'.out.symm
      rw [Nat.zero_add] at c1 c2
      have f1 := World.ownsRow.frozenAt HO.out k
      have hq8 : (k : Int) < 8 := by omega
      have v1 : IntKind.u64.wrap ((p : Int) + (q : Int)) = (p : Int) + (q : Int) := IntWalk.u64_in _ (by omega)
      have v4 : ((p : Int) + (q : Int)).tmod 4294967296 = (((p + q) % 4294967296 : Nat) : Int) := by rw [Int.tmod_eq_emod_of_nonneg (by omega)]; omega
      obtain ⟨z, hz⟩ : ∃ z, Hid (z = (p + q) % 4294967296) := ⟨_, rfl⟩
      rw [← hz.out] at v4
      go_wp2_with fail
      go_still_tail 13, (by kernel_rfl)
      change wpList _ _ _ _ _ wr.drew
      go_wp2
      go_roundw
      case rel =>
        have hs := (HO.out : OwnN wr.drew B _ 8 ch _).set k (x := z) rfl
        refine ⟨k + 1, by omega, by go_num, grown_set (grown_drew HG.out) (.inl rfl) _, ?_⟩
        refine OwnN.congr hs.1 rfl ?_
        rw [hz.out, hp.out, hq.out, Sha.mixl_set (H8l.out.trans H8m.out.symm) (by rw [H8l.out]; exact hlt)]
      case measure => simp [intOf]; omega
    · obtain rfl : k = 8 := by omega
      go_wp2
      exact HQ.out _ _ _ _ _ _ _ _ _ _ _ _ _ _ _ _ _ _ _ HG.out HO.out
end Go.Proofs.Ytjllhimhiekchaa
