/- What the digest's small functions compute: the turn, the constants, the tail. No conditions. -/
import Derived.Test.YtjllhimhiekchaaRSum8
import Derived.Test.YtjllhimhiekchaaRSum2
import Derived.Test.YtjllhimhiekchaaRSum4
import Derived.Test.YtjllhimhiekchaaSl
import Derived.Test.YtjllhimhiekchaaRow
/- The reference's digest: one of its small loops. Numbers within their kinds. -/
namespace Go.Proofs.Ytjllhimhiekchaa
open Go.RowKit
theorem lit_at {w : World} {t : TypeId} (cs : Array Value) (ys : List Value) (h : cs.toList = ys) : At (w.alloc (.cells cs t)) (some ⟨w.heap.size, 0, none⟩) ys :=
  .inr ⟨w.heap.size, 0, rfl, fun j u hu => by rw [Nat.zero_add, (Blk.new w t cs).cell, ← Array.getElem?_toList, h]; exact hu⟩
theorem bval {a : Int} {b : Nat} (h : a = ((b % 256 : Nat) : Int)) : Value.int .u8 a = bv (UInt8.ofNat b) := by
  unfold bv; rw [h, UInt8.toNat_ofNat']
theorem be32_vals (q : Nat) (hq : q < 4294967296) : [Value.int .u8 (IntKind.u8.wrap (IntKind.u64.wrap ((q : Int) / 16777216))), .int .u8 (IntKind.u8.wrap ((IntKind.u64.wrap ((q : Int) / 65536)).tmod 256)),
    .int .u8 (IntKind.u8.wrap ((IntKind.u64.wrap ((q : Int) / 256)).tmod 256)), .int .u8 (IntKind.u8.wrap ((q : Int).tmod 256))] = (Sha.be32 q).map bv := by
  simp only [Sha.be32, List.map_cons, List.map_nil, IntKind.wrap_u8', IntKind.wrap_u64]
  rw [Int.tmod_eq_emod_of_nonneg (by omega), Int.tmod_eq_emod_of_nonneg (by omega), Int.tmod_eq_emod_of_nonneg (by omega)]
  rw [bval (b := q / 16777216) (by omega), bval (b := q / 65536) (by omega), bval (b := q / 256) (by omega), bval (b := q) (by omega)]
set_option maxRecDepth 100000 in
set_option maxHeartbeats 2000000 in
theorem lp10 (u0 u1 u2 u3 u4 u5 u6 u8 u9 u10 u11 u12 u13 u14 u15 u16 u17 u18 u19 u20 u21 u22 u23 u24 u25 u26 u27 u28 u31 u32 u33 u34 u35 u36 u37 u38 u39 u40 u41 u42 u43 u44 u45 u46 u47 u48 u49 u50 u51 u52 u53 u54 u55 u56 u57 u58 u59 u60 u61 u62 u63 u64 u65 u66 u67 u68 u69 u70 u71 u72 u73 u74 u75 u76 u77 u78 u79 u80 u81 u82 u83 u84 u85 u86 u87 u88 u89 u90 u91 u92 u93 u94 u95 u96 u97 u98 u99 u100 u101 u102 u103 u104 u105 u106 u107 u108 u109 u110 u111 u112 u113 u114 u115 u116 u117 u118 u119 u120 u121 u122 u123 u124 u125 u126 u127 u128 u129 u130 u131 u132 u133 u134 u135 u136 u137 u138 u139 u140 u141 u142 u143 u144 u145 u146 u147 u148 u149 u150 u151 u152 u153 u154 u155 u156 u157 u158 u159 u160 u161 u162 u163 u164 u165 u166 u167 u168 u169 u170 u171 u172 u173 u174 u175 u176 u177 u178 u179 u180 u181 u182 u183 u184 u185 u186 u187 u188 u189 u190 u191 u192 u193 u194 u195 u196 u197 u198 u199 u200 u201 u202 u203 u204 u205 u206 u207 u208 u209 u210 u211 u212 u213 u214 u215 u216 u217 u218 u219 u220 u221 u222 u223 u224 u225 u226 u227 u228 u229 u230 u231 u232 u233 u234 u235 u236 u237 u238 u239 u240 u241 u242 u243 u244 u245 u246 u247 u248 u249 u250 u251 u252 u253 u254 u255 u256 u257 u258 u259 u260 u261 u262 u263 u264 u265 u266 u267 u268 u269 u270 u271 u272 u273 u274 u275 u276 u277 u278 u279 u280 u281 u282 u283 u284 u285 u286 u287 u288 u289 u290 u291 u292 u293 u294 u295 u296 u297 u298 u299 u300 u301 u302 u303 u304 u305 u306 u307 u308 u309 u310 u311 u312 u313 u314 u315 u316 u317 u318 u319 u320 u321 u322 u323 u324 u325 u326 u327 u328 u329 u330 u331 u332 u333 u334 u335 u336 u337 u338 u339 u340 u341 u342 u343 u344 u345 u346 u347 u348 u349 u350 u351 : Value) (gh ch B : Nat) (l : List Nat) (w : World) (Q : Exit → Act → World → Prop)
    (hl : l.length = 8) (okl : ∀ i, l.getD i 0 < 4294967296) (hh : Ns .u64 w (some ⟨gh, 0, none⟩) 8 l) 
    (hQ : ∀ (u30 u318 u319 u320 u321 u322 u323 u324 u325 u326 u327 u328 u329 u330 u331 u332 u333 u334 u335 u336 u337 u338 u339 u340 u341 u342 u343 u344 u345 u346 u347 u348 u349 u350 : Value) (A' : Option Addr) (c' : Nat) (w' : World), Below w.heap.size w w' → Own w' w.heap.size A' 32 c' (l.flatMap Sha.be32) →
      Q (.exit 18) { tmps := List.toArray (u0 :: u1 :: u2 :: u3 :: u4 :: u5 :: u6 :: (.slice (some ⟨gh, 0, none⟩) 8 ch) :: u8 :: u9 :: u10 :: u11 :: u12 :: u13 :: u14 :: u15 :: u16 :: u17 :: u18 :: u19 :: u20 :: u21 :: u22 :: u23 :: u24 :: u25 :: u26 :: u27 :: u28 :: (.slice A' 32 c') :: u30 :: u31 :: u32 :: u33 :: u34 :: u35 :: u36 :: u37 :: u38 :: u39 :: u40 :: u41 :: u42 :: u43 :: u44 :: u45 :: u46 :: u47 :: u48 :: u49 :: u50 :: u51 :: u52 :: u53 :: u54 :: u55 :: u56 :: u57 :: u58 :: u59 :: u60 :: u61 :: u62 :: u63 :: u64 :: u65 :: u66 :: u67 :: u68 :: u69 :: u70 :: u71 :: u72 :: u73 :: u74 :: u75 :: u76 :: u77 :: u78 :: u79 :: u80 :: u81 :: u82 :: u83 :: u84 :: u85 :: u86 :: u87 :: u88 :: u89 :: u90 :: u91 :: u92 :: u93 :: u94 :: u95 :: u96 :: u97 :: u98 :: u99 :: u100 :: u101 :: u102 :: u103 :: u104 :: u105 :: u106 :: u107 :: u108 :: u109 :: u110 :: u111 :: u112 :: u113 :: u114 :: u115 :: u116 :: u117 :: u118 :: u119 :: u120 :: u121 :: u122 :: u123 :: u124 :: u125 :: u126 :: u127 :: u128 :: u129 :: u130 :: u131 :: u132 :: u133 :: u134 :: u135 :: u136 :: u137 :: u138 :: u139 :: u140 :: u141 :: u142 :: u143 :: u144 :: u145 :: u146 :: u147 :: u148 :: u149 :: u150 :: u151 :: u152 :: u153 :: u154 :: u155 :: u156 :: u157 :: u158 :: u159 :: u160 :: u161 :: u162 :: u163 :: u164 :: u165 :: u166 :: u167 :: u168 :: u169 :: u170 :: u171 :: u172 :: u173 :: u174 :: u175 :: u176 :: u177 :: u178 :: u179 :: u180 :: u181 :: u182 :: u183 :: u184 :: u185 :: u186 :: u187 :: u188 :: u189 :: u190 :: u191 :: u192 :: u193 :: u194 :: u195 :: u196 :: u197 :: u198 :: u199 :: u200 :: u201 :: u202 :: u203 :: u204 :: u205 :: u206 :: u207 :: u208 :: u209 :: u210 :: u211 :: u212 :: u213 :: u214 :: u215 :: u216 :: u217 :: u218 :: u219 :: u220 :: u221 :: u222 :: u223 :: u224 :: u225 :: u226 :: u227 :: u228 :: u229 :: u230 :: u231 :: u232 :: u233 :: u234 :: u235 :: u236 :: u237 :: u238 :: u239 :: u240 :: u241 :: u242 :: u243 :: u244 :: u245 :: u246 :: u247 :: u248 :: u249 :: u250 :: u251 :: u252 :: u253 :: u254 :: u255 :: u256 :: u257 :: u258 :: u259 :: u260 :: u261 :: u262 :: u263 :: u264 :: u265 :: u266 :: u267 :: u268 :: u269 :: u270 :: u271 :: u272 :: u273 :: u274 :: u275 :: u276 :: u277 :: u278 :: u279 :: u280 :: u281 :: u282 :: u283 :: u284 :: u285 :: u286 :: u287 :: u288 :: u289 :: u290 :: u291 :: u292 :: u293 :: u294 :: u295 :: u296 :: u297 :: u298 :: u299 :: u300 :: u301 :: u302 :: u303 :: u304 :: u305 :: u306 :: u307 :: u308 :: u309 :: u310 :: u311 :: u312 :: u313 :: u314 :: u315 :: u316 :: u317 :: u318 :: u319 :: u320 :: u321 :: u322 :: u323 :: u324 :: u325 :: u326 :: u327 :: u328 :: u329 :: u330 :: u331 :: u332 :: u333 :: u334 :: u335 :: u336 :: u337 :: u338 :: u339 :: u340 :: u341 :: u342 :: u343 :: u344 :: u345 :: u346 :: u347 :: u348 :: u349 :: u350 :: u351 :: []), defers := [] } w') :
    Code.wp Try.prog (nthLoop Try.f85 9) Q { tmps := List.toArray (u0 :: u1 :: u2 :: u3 :: u4 :: u5 :: u6 :: (.slice (some ⟨gh, 0, none⟩) 8 ch) :: u8 :: u9 :: u10 :: u11 :: u12 :: u13 :: u14 :: u15 :: u16 :: u17 :: u18 :: u19 :: u20 :: u21 :: u22 :: u23 :: u24 :: u25 :: u26 :: u27 :: u28 :: (.slice none 0 0) :: (.int .i64 0) :: u31 :: u32 :: u33 :: u34 :: u35 :: u36 :: u37 :: u38 :: u39 :: u40 :: u41 :: u42 :: u43 :: u44 :: u45 :: u46 :: u47 :: u48 :: u49 :: u50 :: u51 :: u52 :: u53 :: u54 :: u55 :: u56 :: u57 :: u58 :: u59 :: u60 :: u61 :: u62 :: u63 :: u64 :: u65 :: u66 :: u67 :: u68 :: u69 :: u70 :: u71 :: u72 :: u73 :: u74 :: u75 :: u76 :: u77 :: u78 :: u79 :: u80 :: u81 :: u82 :: u83 :: u84 :: u85 :: u86 :: u87 :: u88 :: u89 :: u90 :: u91 :: u92 :: u93 :: u94 :: u95 :: u96 :: u97 :: u98 :: u99 :: u100 :: u101 :: u102 :: u103 :: u104 :: u105 :: u106 :: u107 :: u108 :: u109 :: u110 :: u111 :: u112 :: u113 :: u114 :: u115 :: u116 :: u117 :: u118 :: u119 :: u120 :: u121 :: u122 :: u123 :: u124 :: u125 :: u126 :: u127 :: u128 :: u129 :: u130 :: u131 :: u132 :: u133 :: u134 :: u135 :: u136 :: u137 :: u138 :: u139 :: u140 :: u141 :: u142 :: u143 :: u144 :: u145 :: u146 :: u147 :: u148 :: u149 :: u150 :: u151 :: u152 :: u153 :: u154 :: u155 :: u156 :: u157 :: u158 :: u159 :: u160 :: u161 :: u162 :: u163 :: u164 :: u165 :: u166 :: u167 :: u168 :: u169 :: u170 :: u171 :: u172 :: u173 :: u174 :: u175 :: u176 :: u177 :: u178 :: u179 :: u180 :: u181 :: u182 :: u183 :: u184 :: u185 :: u186 :: u187 :: u188 :: u189 :: u190 :: u191 :: u192 :: u193 :: u194 :: u195 :: u196 :: u197 :: u198 :: u199 :: u200 :: u201 :: u202 :: u203 :: u204 :: u205 :: u206 :: u207 :: u208 :: u209 :: u210 :: u211 :: u212 :: u213 :: u214 :: u215 :: u216 :: u217 :: u218 :: u219 :: u220 :: u221 :: u222 :: u223 :: u224 :: u225 :: u226 :: u227 :: u228 :: u229 :: u230 :: u231 :: u232 :: u233 :: u234 :: u235 :: u236 :: u237 :: u238 :: u239 :: u240 :: u241 :: u242 :: u243 :: u244 :: u245 :: u246 :: u247 :: u248 :: u249 :: u250 :: u251 :: u252 :: u253 :: u254 :: u255 :: u256 :: u257 :: u258 :: u259 :: u260 :: u261 :: u262 :: u263 :: u264 :: u265 :: u266 :: u267 :: u268 :: u269 :: u270 :: u271 :: u272 :: u273 :: u274 :: u275 :: u276 :: u277 :: u278 :: u279 :: u280 :: u281 :: u282 :: u283 :: u284 :: u285 :: u286 :: u287 :: u288 :: u289 :: u290 :: u291 :: u292 :: u293 :: u294 :: u295 :: u296 :: u297 :: u298 :: u299 :: u300 :: u301 :: u302 :: u303 :: u304 :: u305 :: u306 :: u307 :: u308 :: u309 :: u310 :: u311 :: u312 :: u313 :: u314 :: u315 :: u316 :: u317 :: u318 :: u319 :: u320 :: u321 :: u322 :: u323 :: u324 :: u325 :: u326 :: u327 :: u328 :: u329 :: u330 :: u331 :: u332 :: u333 :: u334 :: u335 :: u336 :: u337 :: u338 :: u339 :: u340 :: u341 :: u342 :: u343 :: u344 :: u345 :: u346 :: u347 :: u348 :: u349 :: u350 :: u351 :: []), defers := [] } w := by
  have HQ := Lib.hid hQ; have HH := Lib.hid hh; have H8l := Lib.hid hl; have OKL := Lib.hid okl
  clear hQ hh hl okl
  conv => arg 2; whnf
  go_loopw [29, 30] (fun v i wr => ∃ (k : Nat) (A' : Option Addr) (c' : Nat), k ≤ 8 ∧ i = .int .i64 k ∧ v = .slice A' (4 * k) c' ∧ Below w.heap.size w wr ∧ Own wr w.heap.size A' (4 * k) c' ((l.take k).flatMap Sha.be32)) (fun _ i _ => 8 - (intOf i).toNat)
  case atStart => exact ⟨0, none, 0, by omega, rfl, rfl, Below.refl _ _, Own.empty _ _⟩
  case round =>
    obtain ⟨k, A', c', hk, rfl, rfl, hb, ho⟩ := hrel
    have HB := Lib.hid hb; have HO := Lib.hid ho
    clear hb ho
    by_cases hlt : k < 8
    · obtain ⟨q, hq, c1⟩ := (HH.out.below HB.out).getAt (i := k) hlt
      rw [Nat.zero_add] at c1
      have lq : q < 4294967296 := by rw [hq.out]; exact OKL.out _
      have hq8 : (k : Int) < 8 := by omega
      obtain ⟨q', hq', c0⟩ := HH.out.getAt (i := k) hlt
      obtain rfl : q = q' := hq.out.trans hq'.out.symm
      rw [Nat.zero_add] at c0
      have hgl := cell_lt c0
      go_wp2_with fail
      go_region_held3 (fun w' => w'.cell? ⟨gh, k, none⟩ = some (.int .u64 q))
        (first | go_keep | (exact (hbw2.cell (p := ⟨gh, k, none⟩) hgl).trans c0))
        ((refine step_own (w0 := w) (by rfl) (.tmp 322) (.tmp 349) _ (by rfl) _ _ eltB w.heap.size _ _ _ (by rfl) ((HO.out : Own wr.drew w.heap.size _ _ c' _).alloc _) _ 4 4 ((Sha.be32 q).map bv) (by rfl) (by rfl) (lit_at (w := wr.drew) _ _ (be32_vals q lq)) (by intro u hu; exact bv_one u hu) (by omega) (by omega) ((HB.out.drew).alloc HB.out.size _) (by have := HB.out.size; simp; omega) ?_; intro A2 c2 w2 hown2 hbw2 _ _))
      go_wp2
      go_roundw
      case rel => exact ⟨k + 1, A2, c2, by omega, by go_num, rfl, hbw2, (Own.app hown2).congr (by omega) (by rw [List.take_succ_eq_append_getElem (by rw [H8l.out]; exact hlt), List.flatMap_append, hq.out]; simp [H8l.out, hlt])⟩
      case measure => simp [intOf]; omega
    · obtain rfl : k = 8 := by omega
      go_wp2
      exact HQ.out _ _ _ _ _ _ _ _ _ _ _ _ _ _ _ _ _ _ _ _ _ _ _ _ _ _ _ _ _ _ _ _ _ _ _ _ _ HB.out (HO.out.congr rfl (by rw [List.take_of_length_le (by rw [H8l.out]; omega)]))
end Go.Proofs.Ytjllhimhiekchaa

/- The reference's digest of bytes, by beginnings and constants that lie in two slices: the plain function. At most 2^45 bytes. -/
namespace Go.Proofs.Ytjllhimhiekchaa
open Go.RowKit
theorem own_low2 {w : World} {base n c b off : Nat} {A : Option Addr} {xs : List UInt8} (h : Own w base A n c xs) (hA : A = some ⟨b, off, none⟩) : base ≤ b ∧ b < w.heap.size := by
  subst hA
  exact World.ownsRow.lt h b rfl
theorem rep_snoc (X : List UInt8) (k : Nat) : X ++ 128 :: List.replicate k 0 ++ [0] = X ++ 128 :: List.replicate (k + 1) 0 := by
  rw [List.append_assoc, List.cons_append, ← List.replicate_succ']
set_option maxRecDepth 100000 in
set_option maxHeartbeats 4000000 in
theorem sumr_any (A A1 A2 : Option Addr) (n c c1 c2 : Nat) (xs : List UInt8) (w : World) (ha : Bs w A n xs) (hn : n ≤ 35184372088832) (h1 : Ns .u64 w A1 8 Sha.H0) (h2 : Ns .u64 w A2 64 Sha.K) :
    Calls Try.prog 85 #[.slice A n c, .slice A1 8 c1, .slice A2 64 c2] w fun e w' => ∃ A' c', e = .returned (.slice A' 32 c') ∧ Own w' w.heap.size A' 32 c' (Sha.sum xs) ∧ Below w.heap.size w w' := by
  have HA := Lib.hid ha; have H1 := Lib.hid h1; have H2 := Lib.hid h2
  clear ha h1 h2
  obtain ⟨N, hN⟩ : ∃ N, Hid (N = n * 8) := ⟨_, rfl⟩
  have hNl : N < 18446744073709551616 := by rw [hN.out]; omega
  have rN : (n : Int) * 8 = (N : Int) := by rw [hN.out]; simp
  have hz : Sha.zeros n < 64 := Nat.mod_lt _ (by omega)
  go_enter Try.func85, Try.ntmps85
  go_wp2_with (first
    | (at_builtin; refine app_own (w0 := w) rfl (.tmp 31) (.tmp 32) _ rfl _ _ eltN w.heap.size _ 0 [] rfl (OwnN.made w w.heap.size 0 #[] (Nat.le_refl _) (by unfold maxLen; omega) rfl) A1 8 c1 (Sha.H0.map (iv .u64)) rfl rfl (H1.out.below ((Below.refl _ _).alloc (Nat.le_refl _) _)).2 iv_oneCell (by omega) (by omega) ((Below.refl _ _).alloc (Nat.le_refl _) _) (by simp) ?_
       intro Ah ch wh hownh hbwh _ _
       have hoh : OwnN wh w.heap.size Ah 8 ch Sha.IV.list := hownh
       obtain ⟨gh, rfl, hgh, hghl, _⟩ := hoh.open (by omega)
       have HOh := Lib.hid hoh
       have HBh : Hid (Below w.heap.size w wh) := hbwh
       clear hownh hoh hbwh)
    | (at_builtin; refine app_own (w0 := wh) rfl (.tmp 34) (.tmp 35) _ rfl _ _ eltB wh.heap.size _ 0 [] rfl (Own.made wh wh.heap.size 0 #[] (Nat.le_refl _) (by unfold maxLen; omega) rfl) A n c (xs.map bv) rfl (by rw [List.length_map]; exact HA.out.1) ((HA.out.below HBh.out).below ((Below.refl _ _).alloc (Nat.le_refl _) _)).2 (by intro u hu; exact bv_one u hu) (by omega) (by omega) ((Below.refl _ _).alloc (Nat.le_refl _) _) (by simp) ?_
       intro Am cm wm hownm hbwm _ _
       have hom : Own wm wh.heap.size Am n cm xs := by rw [Nat.zero_add] at hownm; exact hownm
       have HOm := Lib.hid hom
       have HBm : Hid (Below wh.heap.size wh wm) := hbwm
       have hsm := hbwm.size
       clear hownm hom hbwm)
    | (at_builtin; refine app_own (w0 := wh) rfl (.tmp 36) (.tmp 37) _ rfl _ _ eltB wh.heap.size _ _ _ rfl (HOm.out.alloc _) _ _ _ ([128].map bv) rfl rfl (Bs.one wm _ 128).2 (by intro u hu; exact bv_one u hu) (by omega) (by omega) (HBm.out.alloc hsm _) (by simp; omega) ?_
       intro Aq cq wq hownq hbwq _ _
       have hoq : Own wq wh.heap.size Aq (n + 1) cq (xs ++ [128]) := Own.app (ys := [128]) hownq
       have HOq := Lib.hid hoq
       have HBq : Hid (Below wh.heap.size wh wq) := hbwq
       clear hownq hoq hbwq HOm HBm))
  go_loopw [8] (fun v wr => ∃ (k : Nat) (A' : Option Addr) (c' : Nat), v = .slice A' (n + 1 + k) c' ∧ k ≤ Sha.zeros n ∧ Below wh.heap.size wh wr ∧ Own wr wh.heap.size A' (n + 1 + k) c' (xs ++ 128 :: List.replicate k 0)) (fun v _ => n + 1 + Sha.zeros n - (lenOf v))
  case atStart => exact ⟨0, Aq, cq, rfl, by omega, HBq.out, HOq.out.congr rfl rfl⟩
  case round =>
    obtain ⟨k, A', c', rfl, hk, hb, ho⟩ := hrel
    have HB := Lib.hid hb; have HO := Lib.hid ho
    clear hb ho HBq HOq
    by_cases hlt : k < Sha.zeros n
    · have ht : (((n : Int) + 1 + (k : Int)) % 64 != 56) = true := by rw [bne_iff_ne]; unfold Sha.zeros at hlt; omega
      go_wp2_with (at_builtin; refine app_own (w0 := wh) rfl _ _ _ rfl _ _ eltB wh.heap.size _ _ _ rfl (HO.out.alloc _) _ _ _ ([0].map bv) rfl rfl (Bs.one wr _ 0).2 (by intro u hu; exact bv_one u hu) (by omega) (by omega) (HB.out.alloc HB.out.size _) (by have := HB.out.size; simp; omega) ?_; intro A2 c2 w2 hown2 hbw2 _ _)
      go_roundw
      case rel => exact ⟨k + 1, A2, c2, rfl, by omega, hbw2, (Own.app (ys := [0]) hown2).congr rfl (rep_snoc xs k)⟩
      case measure => simp [lenOf]; omega
    · have ht : (((n : Int) + 1 + (k : Int)) % 64 != 56) = false := by rw [bne_eq_false_iff_eq]; unfold Sha.zeros at hlt hk; omega
      have hk' : Hid (k = Sha.zeros n) := by show _ = _; omega
      obtain ⟨LL, hLL⟩ : ∃ LL, Hid (LL = n + 1 + k) := ⟨_, rfl⟩
      have hll : LL ≤ 35184372088932 := by have := hLL.out; omega
      go_wp2_with (first
        | (refine lp2 _ _ _ _ _ _ _ _ _ _ _ _ _ _ _ _ _ _ _ _ _ _ _ _ _ _ _ _ _ _ _ _ _ _ _ _ _ _ _ _ _ _ _ _ _ _ _ _ _ _ _ _ _ _ _ _ _ _ _ _ _ _ _ _ _ _ _ _ _ _ _ _ _ _ _ _ _ _ _ _ _ _ _ _ _ _ _ _ _ _ _ _ _ _ _ _ _ _ _ _ _ _ _ _ _ _ _ _ _ _ _ _ _ _ _ _ _ _ _ _ _ _ _ _ _ _ _ _ _ _ _ _ _ _ _ _ _ _ _ _ _ _ _ _ _ _ _ _ _ _ _ _ _ _ _ _ _ _ _ _ _ _ _ _ _ _ _ _ _ _ _ _ _ _ _ _ _ _ _ _ _ _ _ _ _ _ _ _ _ _ _ _ _ _ _ _ _ _ _ _ _ _ _ _ _ _ _ _ _ _ _ _ _ _ _ _ _ _ _ _ _ _ _ _ _ _ _ _ _ _ _ _ _ _ _ _ _ _ _ _ _ _ _ _ _ _ _ _ _ _ _ _ _ _ _ _ _ _ _ _ _ _ _ _ _ _ _ _ _ _ _ _ _ _ _ _ _ _ _ _ _ _ _ _ _ _ _ _ _ _ _ _ _ _ _ _ _ _ _ _ _ _ _ _ _ _ _ _ _ _ _ _ _ _ _ _ _ _ _ _ _ _ _ _ _ _ _ _ _ _ _ _ _ _ _ _ _ _ _ _ _ _ _ _ _ _ _ _ _ A' (n + 1 + k) c' N wh.heap.size _ wr _ hNl (by omega) HO.out HB.out.size ?_
           intro u10 u11 u12 u50 u51 u52 u53 u54 u55 u56 u57 u58 u59 u60 u61 u62 u63 u64 u65 u66 u67 u68 u69 A9 c9 w9 hb9 ho9
           have HB9 : Hid (Below wh.heap.size wh w9) := HB.out.trans hb9
           have HO9 : Hid (Own w9 wh.heap.size A9 (n + 1 + k + 8) c9 (xs ++ Sha.pad xs.length)) := ho9.congr rfl (by rw [List.append_assoc, hk'.out, hN.out, HA.out.1]; rfl)
           clear hb9 ho9)
        | (refine lp4 _ _ _ _ _ _ _ _ _ _ _ _ _ _ _ _ _ _ _ _ _ _ _ _ _ _ _ _ _ _ _ _ _ _ _ _ _ _ _ _ _ _ _ _ _ _ _ _ _ _ _ _ _ _ _ _ _ _ _ _ _ _ _ _ _ _ _ _ _ _ _ _ _ _ _ _ _ _ _ _ _ _ _ _ _ _ _ _ _ _ _ _ _ _ _ _ _ _ _ _ _ _ _ _ _ _ _ _ _ _ _ _ _ _ _ _ _ _ _ _ _ _ _ _ _ _ _ _ _ _ _ _ _ _ _ _ _ _ _ _ _ _ _ _ _ _ _ _ _ _ _ _ _ _ _ _ _ _ _ _ _ _ _ _ _ _ _ _ _ _ _ _ _ _ _ _ _ _ _ _ _ _ _ _ _ _ _ _ _ _ _ _ _ _ _ _ _ _ _ _ _ _ _ _ _ _ _ _ _ _ _ _ _ _ _ _ _ _ _ _ _ _ _ _ _ _ _ _ _ _ _ _ _ _ _ _ _ _ _ _ _ _ _ _ _ _ _ _ _ _ _ _ _ _ _ _ _ _ _ _ _ _ _ _ _ _ _ _ _ _ _ _ _ _ _ _ _ _ _ _ _ _ _ _ _ _ _ _ _ _ _ _ _ _ _ _ _ _ _ _ _ _ _ _ _ _ _ _ _ _ _ _ _ _ _ _ _ _ _ _ _ _ _ _ _ _ _ _ _ _ _ _ _ _ _ _ _ _ _ _ _ _ _ _ _ _ _ _ A2 A9 c2 gh ch (n + 1 + k + 8) c9 w.heap.size (xs ++ Sha.pad xs.length) w9 _ HO9.out.bs (by omega) (by have := hk'.out; unfold Sha.zeros at this; omega) ((H2.out.below HBh.out).below HB9.out) (HOh.out.below HB9.out)
             (fun b off h => by obtain ⟨b', off', _, h', _, hb', _⟩ := H2.out.get (i := 0) (by omega); rw [h] at h'; injection h' with h'; injection h' with h'; omega) (fun b off h => by have := own_low2 HO9.out h; omega) ?_
           intro u13 u14 u15 u16 u17 u18 u19 u20 u21 u22 u23 u24 u25 u26 u27 u28 u70 u71 u72 u73 u74 u75 u76 u77 u78 u79 u80 u81 u82 u83 u84 u85 u86 u87 u88 u89 u90 u91 u92 u93 u94 u95 u96 u97 u98 u99 u100 u101 u102 u103 u104 u105 u106 u107 u108 u109 u110 u111 u112 u113 u114 u115 u116 u117 u118 u119 u120 u121 u122 u123 u124 u125 u126 u127 u128 u129 u130 u131 u132 u133 u134 u135 u136 u137 u138 u139 u140 u141 u142 u143 u144 u145 u146 u147 u148 u149 u150 u151 u152 u153 u154 u155 u156 u157 u158 u159 u160 u161 u162 u163 u164 u165 u166 u167 u168 u169 u170 u171 u172 u173 u174 u175 u176 u177 u178 u179 u180 u181 u182 u183 u184 u185 u186 u187 u188 u189 u190 u191 u192 u193 u194 u195 u196 u197 u198 u199 u200 u201 u202 u203 u204 u205 u206 u207 u208 u209 u210 u211 u212 u213 u214 u215 u216 u217 u218 u219 u220 u221 u222 u223 u224 u225 u226 u227 u228 u229 u230 u231 u232 u233 u234 u235 u236 u237 u238 u239 u240 u241 u242 u243 u244 u245 u246 u247 u248 u249 u250 u251 u252 u253 u254 u255 u256 u257 u258 u259 u260 u261 u262 u263 u264 u265 u266 u267 u268 u269 u270 u271 u272 u273 u274 u275 u276 u277 u278 u279 u280 u281 u282 u283 u284 u285 u286 u287 u288 u289 u290 u291 u292 u293 u294 u295 u296 u297 u298 u299 u300 u301 u302 u303 u304 u305 u306 u307 u308 u309 u310 u311 u312 u313 u314 u315 u316 u317 w10 hg10 ho10
           have HB10 : Hid (Below w.heap.size w w10) := below_grown (HBh.out.trans (HB9.out.mono HBh.out.size)) hg10 hgh (Nat.le_trans HBh.out.size HB9.out.size)
           have HO10 := Lib.hid ho10
           clear hg10 ho10)
        | (refine lp10 _ _ _ _ _ _ _ _ _ _ _ _ _ _ _ _ _ _ _ _ _ _ _ _ _ _ _ _ _ _ _ _ _ _ _ _ _ _ _ _ _ _ _ _ _ _ _ _ _ _ _ _ _ _ _ _ _ _ _ _ _ _ _ _ _ _ _ _ _ _ _ _ _ _ _ _ _ _ _ _ _ _ _ _ _ _ _ _ _ _ _ _ _ _ _ _ _ _ _ _ _ _ _ _ _ _ _ _ _ _ _ _ _ _ _ _ _ _ _ _ _ _ _ _ _ _ _ _ _ _ _ _ _ _ _ _ _ _ _ _ _ _ _ _ _ _ _ _ _ _ _ _ _ _ _ _ _ _ _ _ _ _ _ _ _ _ _ _ _ _ _ _ _ _ _ _ _ _ _ _ _ _ _ _ _ _ _ _ _ _ _ _ _ _ _ _ _ _ _ _ _ _ _ _ _ _ _ _ _ _ _ _ _ _ _ _ _ _ _ _ _ _ _ _ _ _ _ _ _ _ _ _ _ _ _ _ _ _ _ _ _ _ _ _ _ _ _ _ _ _ _ _ _ _ _ _ _ _ _ _ _ _ _ _ _ _ _ _ _ _ _ _ _ _ _ _ _ _ _ _ _ _ _ _ _ _ _ _ _ _ _ _ _ _ _ _ _ _ _ _ _ _ _ _ _ _ _ _ _ _ _ _ _ _ _ _ _ _ _ _ _ _ _ _ _ _ _ _ _ _ _ _ _ _ _ _ _ _ _ _ _ _ _ _ _ _ _ _ _ gh ch 0 (Sha.blocks Sha.IV (xs ++ Sha.pad xs.length) ((n + 1 + k + 8) / 64)).list w10 _ rfl (ok_list (Sha.blocks_ok Sha.IV_ok _ _)) HO10.out.ns ?_
           intro u30 u318 u319 u320 u321 u322 u323 u324 u325 u326 u327 u328 u329 u330 u331 u332 u333 u334 u335 u336 u337 u338 u339 u340 u341 u342 u343 u344 u345 u346 u347 u348 u349 u350 A11 c11 w11 hb11 ho11
           have HB11 : Hid (Below w.heap.size w w11) := HB10.out.trans (hb11.mono HB10.out.size)
           have HO11 : Hid (Own w11 w.heap.size A11 32 c11 (Sha.sum xs)) := by
             have hlen : (xs ++ Sha.pad xs.length).length = n + 1 + k + 8 := by rw [List.length_append, Sha.pad_length, HA.out.1]; have := hk'.out; omega
             refine Own.congr (ho11.lower HB10.out.size) rfl ?_
             unfold Sha.sum Sha.S8.bytes
             rw [hlen]
           clear hb11 ho11))
      go_ret
      exact ⟨A11, c11, rfl, HO11.out, HB11.out⟩
end Go.Proofs.Ytjllhimhiekchaa

namespace Go.Proofs.Ytjllhimhiekchaa
open Go.RowKit

theorem rl7 : bits .and .u64 (IntKind.u64.wrap (-7)) 31 = 25 := by decide +kernel
theorem rl18 : bits .and .u64 (IntKind.u64.wrap (-18)) 31 = 14 := by decide +kernel
theorem rl17 : bits .and .u64 (IntKind.u64.wrap (-17)) 31 = 15 := by decide +kernel
theorem rl19 : bits .and .u64 (IntKind.u64.wrap (-19)) 31 = 13 := by decide +kernel
theorem rl6 : bits .and .u64 (IntKind.u64.wrap (-6)) 31 = 26 := by decide +kernel
theorem rl11 : bits .and .u64 (IntKind.u64.wrap (-11)) 31 = 21 := by decide +kernel
theorem rl25 : bits .and .u64 (IntKind.u64.wrap (-25)) 31 = 7 := by decide +kernel
theorem rl2 : bits .and .u64 (IntKind.u64.wrap (-2)) 31 = 30 := by decide +kernel
theorem rl13 : bits .and .u64 (IntKind.u64.wrap (-13)) 31 = 19 := by decide +kernel
theorem rl22 : bits .and .u64 (IntKind.u64.wrap (-22)) 31 = 10 := by decide +kernel

theorem rot_fin (x n : Nat) (hx : x < 4294967296) (hn : n ≤ 32) (p q : Int) (hp : p = ((x * 2 ^ (32 - n) % 4294967296 : Nat) : Int)) (hq : q = ((x / 2 ^ n : Nat) : Int)) :
    Ending.returned (.int .u32 (bits .or .u32 p q)) = .returned (.int .u32 (Sha.rotr x n : Nat)) := by
  subst hp; subst hq
  rw [u32_or_nat _ _ (Nat.mod_lt _ (by omega)) (Nat.lt_of_le_of_lt (Nat.div_le_self _ _) hx), Sha.rotr_or hx hn]

set_option maxHeartbeats 1000000 in
theorem right_any (x : Nat) (n : Int) (w : World) (hx : x < 4294967296) (hn : n = 7 ∨ n = 18 ∨ n = 17 ∨ n = 19 ∨ n = 6 ∨ n = 11 ∨ n = 25 ∨ n = 2 ∨ n = 13 ∨ n = 22) :
    Calls Try.prog 108 #[.int .u32 x, .int .i64 n] w fun e w' => e = .returned (.int .u32 (Sha.rotr x n.toNat : Nat)) ∧ w = w' := by
  have h7 := rl7; have h18 := rl18; have h17 := rl17; have h19 := rl19; have h6 := rl6
  have h11 := rl11; have h25 := rl25; have h2 := rl2; have h13 := rl13; have h22 := rl22
  rcases hn with rfl | rfl | rfl | rfl | rfl | rfl | rfl | rfl | rfl | rfl
  all_goals
    go_enter Try.func108, Try.ntmps108
    go_wp2
    go_ret
    exact ⟨rot_fin x _ hx (by decide) _ _ (by simp) (by simp), rfl⟩

theorem z64 : (Try.prog.info? 126).map (fun i => i.zero.map (·.cells)) = some (some (nums .u32 (zrs 64))) := by kernel_rfl
theorem z8 : (Try.prog.info? 120).map (fun i => i.zero.map (·.cells)) = some (some (nums .u32 (zrs 8))) := by kernel_rfl
theorem s64 : (Try.prog.info? 126).map (·.size) = some 64 := by kernel_rfl
theorem s8 : (Try.prog.info? 120).map (·.size) = some 8 := by kernel_rfl

set_option maxRecDepth 100000 in
set_option maxHeartbeats 400000 in
theorem const_any (w : World) : Calls Try.prog 107 #[] w fun e w' => e = .returned (.agg (nums .u32 Sha.K)) ∧ Below w.heap.size w w' := by
  go_enter Try.func107, Try.ntmps107
  go_wp2_with (first | refine arr_alloc rfl _ rfl _ z64 w.heap.size rfl ?_ | refine arr_build rfl _ _ rfl (nums .u32 Sha.K) (by kernel_rfl) ?_ | refine arr_store rfl _ _ _ rfl w.heap.size (nums .u32 Sha.K) rfl rfl _ _ (Blk.new w _ _) 64 s64 rfl rfl (nums_one _ _) ?_)
  exact arr_ret rfl w.heap.size _ _ _ rfl ((Blk.new w _ _).row _) Try.underlying126 rfl 64 s64 rfl rfl ⟨rfl, bel_row ((Below.refl _ _).alloc (Nat.le_refl _) _) (Nat.le_refl _) _⟩
set_option maxHeartbeats 400000 in
theorem begin_any (w : World) : Calls Try.prog 101 #[] w fun e w' => e = .returned (.agg (nums .u32 Sha.H0)) ∧ Below w.heap.size w w' := by
  go_enter Try.func101, Try.ntmps101
  go_wp2_with (first | refine arr_alloc rfl _ rfl _ z8 w.heap.size rfl ?_ | refine arr_build rfl _ _ rfl (nums .u32 Sha.H0) (by kernel_rfl) ?_ | refine arr_store rfl _ _ _ rfl w.heap.size (nums .u32 Sha.H0) rfl rfl _ _ (Blk.new w _ _) 8 s8 rfl rfl (nums_one _ _) ?_)
  exact arr_ret rfl w.heap.size _ _ _ rfl ((Blk.new w _ _).row _) Try.underlying120 rfl 8 s8 rfl rfl ⟨rfl, bel_row ((Below.refl _ _).alloc (Nat.le_refl _) _) (Nat.le_refl _) _⟩

end Go.Proofs.Ytjllhimhiekchaa
