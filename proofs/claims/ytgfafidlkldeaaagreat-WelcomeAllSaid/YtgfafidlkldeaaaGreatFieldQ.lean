/- The field's Inv and Root, the reference's Pow and Inv: what each hands back. -/
import Derived.Test.YtgfafidlkldeaaaGreatFieldB
import Derived.Test.YtgfafidlkldeaaaGreatNt
import Derived.Test.YtgfafidlkldeaaaGreatAu
import Derived.Test.YtgfafidlkldeaaaGreatVc7
import Derived.Shelf.Spec.BitsCarry
import Derived.Test.YtgfafidlkldeaaaGreatWireR
set_option linter.unusedVariables false
set_option linter.unusedSimpArgs false
set_option maxHeartbeats 4000000
set_option maxRecDepth 4000
namespace Go.Proofs.YtgfafidlkldeaaaGreat
open Go.RowKit Tryz
attribute [local irreducible] Ef WC WF WK WL WM WN WQ Y cu db
variable {cs ds : Array Value} {P a g i j m n o x : Nat} {t ty : TypeId} {b : UInt8} {w w' : aa9}
theorem Pz (x k c : Nat) (h : (2 : Int) ^ (min (k : Int).toNat IntKind.u64.bits) = (c : Int)) : (x : Int) / 2 ^ (min (k : Int).toNat IntKind.u64.bits) = ((x / c : Nat) : Int) := by rw [h]; exact (Int.natCast_ediv _ _).symm
theorem Xi (x : Nat) (hx : x * 256 < 18446744073709551616) : IntKind.u64.wrap ((x : Int) * 2 ^ (min (8 : Int).toNat IntKind.u64.bits)) = ((x * 256 : Nat) : Int) := by rw [show (2 : Int) ^ (min (8 : Int).toNat IntKind.u64.bits) = 256 from rfl];exact aG Om hx
theorem YJ (a b : Nat) (hb : b < 256) (ha : a * 256 < 18446744073709551616) : bits .or .u64 ((a * 256 : Nat) : Int) (b : Int) = ((a * 256 + b : Nat) : Int) := by have h := (cz (p := a * 256) (q := b) ha Om).2.1;rw [h, show a * 256 = 2 ^ 8 * a by omega, Nat.two_pow_add_eq_or_of_lt (show b < 2 ^ 8 from hb)]
theorem PK (g o : Nat) (t : TypeId) (X : Lb) (w : aa9) (B : aq w g t (dc X)) (hX : X.length = 32) (ho : o + 8 ≤ 32) :
  Ct 260 #[.int .i64 (o : Int), .pointer (cf g)] w (ck w (.int .u64 ((Fp.word X o : Nat) : Int))) := by
 refine ai 20 func260 ?_;intro _ aa4;refine aU ?_;refine aE (fun n' L wr => ∃ j x : Nat, L = [(0, .int .i64 (o : Int)), (1, .pointer (cf g)), (4, .int .u64 (x : Int)), (5, .int .i64 ((j : Int) - 1))] ∧ n' = 1 + j ∧ (j ≤ 8 ∧ wr = w ∧ x = Fp.num ((X.drop (o + j)).take (8 - j)))) _ _ ⟨8, 0, rfl, rfl, Om, rfl, by simp [Fp.num]⟩ Ls ?_;rintro _ n' L wr ⟨j, x, rfl, rfl, _, rfl, hx⟩ YU;refine aa1 (fun YV => ?_) (fun YV => ?_)
 ·refine au 4 ?_
  obtain ⟨j, rfl⟩ : ∃ i, j = i + 1 := ⟨j - 1, Om⟩
  rw [show (((j + 1 : Nat) : Int) - 1) = (j : Int) by omega];have hst := Fp.Hz X o j Om Om;have hlt := Fp.Oi X o (j + 1) Om;have hp : 256 ^ (8 - (j + 1)) ≤ 256 ^ 7 := Nat.pow_le_pow_right Om Om;rw [← hx] at hst hlt
  obtain ⟨b, hb⟩ : ∃ b, b = (X.getD (o + j) 0).toNat := ⟨_, rfl⟩
  have hbl : b < 256 := by rw [hb]; exact UInt8.toNat_lt _
  rw [← hb] at hst;have YW : x < 72057594037927936 := Om
  refine au 2 ?_;refine ak (fX rfl rfl Om (Xi x Om)) ?_;refine au 3 ?_;refine ak (bM rfl rfl Tn.u Kr (j := o + j) Om Om) ?_;refine ak (ah rfl Tn.u rfl (B.get (v := .int .u8 (b : Int)) (by rw [Nat.zero_add, lB Om, hb]))) ?_;refine au 1 ?_;refine ak (jZ rfl rfl (YJ x b hbl Om)) ?_;refine au 9 ?_;refine ae ?_;refine YU _ _ ⟨j, x * 256 + b, rfl, rfl, Om, rfl, by rw [hst]; omega⟩ Om Ls
 refine aU ?_;refine aa4 rfl ?_;obtain rfl : j = 0 := Om
 exact ⟨by rw [hx]; rfl, Ext.refl _⟩
theorem pU {L : List (Nat × Value)} {z y : Operand} {ats : Array TypeId} {X : Lb} (hz : ev L z = some (.func (.func 260) #[] #[.pointer (cf g)])) (hy : ev L y = some (.int .i64 (o : Int))) (B : aq w g t (dc X)) (hX : X.length = 32) (ho : o + 8 ≤ 32) :
  Ef Tryz.prog L w (.call { callee := .value z, args := #[y], argTypes := ats }) ty fun v w' => v = .int .u64 ((Fp.word X o : Nat) : Int) ∧ Ext w w' :=
 kD (us := [.pointer (cf g)]) (xs := [y]) (vs := [.int .i64 (o : Int)]) hz func260 rfl rfl (by simp [oY, hy]) (PK g o t X w B hX ho) (fun _ _ h => ⟨_, h.1, rfl, h.2⟩)
theorem LI (b : Lb) (h : aq w g t ((dc (iX 32)).toList.take 0 ++ (b.take 32).map bv ++ (dc (iX 32)).toList.drop (0 + ((b.take 32).map bv).length)).toArray) : aq w g t (dc (Fp.pad b)) := by refine h.congr ?_;unfold dc Fp.pad;rw [List.map_append];congr 1;rw [List.take_zero, List.nil_append, Nat.zero_add, List.length_map, List.toList_toArray];congr 1;unfold iX;rw [List.map_replicate, List.drop_replicate, List.map_replicate]
theorem Qa (A : Oa) (n c : Nat) (b : Lb) (w : aa9) (HA : Bs w A n b) :
  Ct 240 #[.slice A n c] w fun e w' => ∃ es, e = .returned (.agg es) ∧ Fe es (Fp.RR b) ∧ Ext w w' := by
 have hX := Fp.cJ b
 have HT : Bs w A (min n 32) (b.take 32) := by
  have h := HA.take (k := min n 32) Om;have hn := HA.1;rcases Nat.le_total n 32 with h1 | h1
  ·rw [Nat.min_eq_left h1, List.take_of_length_le Om] at h;rw [Nat.min_eq_left h1, List.take_of_length_le Om]; exact h
  rw [Nat.min_eq_right h1] at h ⊢; exact h
 refine aH (s := 5) 30 func240 rfl rfl rfl underlying134 rfl Kr rfl ?_;intro _ aa4;refine aU ?_;intro w1 g1 (B1 : aq _ _ _ (fe (fun _ => 0))) YU ex;have E := ex; have YW := B1.lt;refine aU ?_;intro w2 g2 (B2 : aq _ _ _ (dc (iX 32))) YV ex;replace E := E.ext ex; replace B1 := B1.ext ex;refine au 4 ?_;refine ak (yW (s := 1) rfl Tn.u Kr) ?_;refine aU ?_;refine af (iy rfl rfl Tn.u Kr B2 (HT.wk E).2 (by rw [List.length_map, HT.1]) (by rw [List.length_map, HT.1, aV]; simp [iX]; omega) aJ) rfl ?_;rintro _ _ ⟨rfl, B3, cg⟩;replace B3 := LI b B3; replace E := E.aw cg (Nat.le_trans (by have := YU; omega) YV); replace B1 := B1.aw cg Om;refine au 4 ?_;refine ak (gC rfl) ?_;refine aU ?_;refine af (pU (o := 0) rfl rfl B3 hX Om) rfl ?_;rintro _ _ ⟨rfl, ex⟩;obtain ⟨E,B1,B3⟩ := bh ex E B1 B3;refine ak (cT rfl rfl (mR _ (Fp.word_lt _ 0 Om))) ?_;refine aU ?_;refine af (pU (o := 6) rfl rfl B3 hX Om) rfl ?_;rintro _ _ ⟨rfl, ex⟩;obtain ⟨E,B1,B3⟩ := bh ex E B1 B3;refine ak (cn rfl rfl Om (Pz _ 3 8 rfl)) ?_;refine ak (cT rfl rfl (mR _ (by have := Fp.word_lt (Fp.pad b) 6 Om; omega))) ?_;refine aU ?_;refine af (pU (o := 12) rfl rfl B3 hX Om) rfl ?_;rintro _ _ ⟨rfl, ex⟩;obtain ⟨E,B1,B3⟩ := bh ex E B1 B3;refine ak (cn rfl rfl Om (Pz _ 6 64 rfl)) ?_;refine ak (cT rfl rfl (mR _ (by have := Fp.word_lt (Fp.pad b) 12 Om; omega))) ?_;refine aU ?_;refine af (pU (o := 19) rfl rfl B3 hX Om) rfl ?_;rintro _ _ ⟨rfl, ex⟩;obtain ⟨E,B1,B3⟩ := bh ex E B1 B3;refine ak (cn rfl rfl Om (Pz _ 1 2 rfl)) ?_;refine ak (cT rfl rfl (mR _ (by have := Fp.word_lt (Fp.pad b) 19 Om; omega))) ?_;refine aU ?_;refine af (pU (o := 24) rfl rfl B3 hX Om) rfl ?_;rintro _ _ ⟨rfl, ex⟩;obtain ⟨E,B1⟩ := aS ex E B1;refine ak (cn rfl rfl Om (Pz _ 12 4096 rfl)) ?_;refine ak (cT rfl rfl (mR _ (by have := Fp.word_lt (Fp.pad b) 24 Om; omega))) ?_;refine ak (aA rfl (cells := fe (Fp.Dp (Fp.pad b))) Kr) ?_;refine ak (aA rfl (cells := fe (Fp.Dp (Fp.pad b))) Kr) ?_;refine af (ag rfl rfl (by rw [aj]; kernel_rfl) B1 (by rw [aj, aj]) (bg _)) rfl ?_;rintro _ _ ⟨rfl, B9, cg⟩;have E9 := E.aw cg YU;refine aU ?_;exact aa4 rfl B9 (aj _) ⟨_, rfl, ⟨_, rfl, fun j _ => by have := Fp.TC (Fp.pad b) j; omega, by rw [Fp.OI _ hX, Fp.QI]; rfl⟩, E9⟩
theorem uj (k : Nat) (hk : k ≤ 1000000) (w : aa9) :
  ∃ v w', (callFunc 262 #[.int .i64 (k : Int)]).run Tryz.prog w = .ok (.value v) w' ∧ SB w 5 k v w' := by
 obtain ⟨cs, aa8, hle, _⟩ := Lib.run_makeNoZero (P := Tryz.prog) w #[3] 23 5 underlying23 k Om;refine ⟨_, _, ?_, w.heap.size, cs, rfl, aq.new w.drew.drew 5 cs, hle, Nat.le_refl _, ?_⟩
 ·rw [run_callFunc_extern func262 Kr Kr Kr (e := Extern.BytealgMakeNoZero.makeNoZero #[3] #[23]) Kr, aa8];rfl
 exact (((Ext.drew w).tr (Ext.drew w.drew))).tr (Ext.alloc _ _)
theorem Mh (x y : Nat) (w : aa9) (hx : x < 18446744073709551616) (hy : y < 18446744073709551616) :
  Ct 261 #[.int .u64 (x : Int), .int .u64 (y : Int)] w (ck w (.tuple #[.int .u64 ((x * y / 18446744073709551616 : Nat) : Int), .int .u64 ((x * y % 18446744073709551616 : Nat) : Int)])) := by
 refine aZ 30 func261 ?_;intro _ aa4;refine au 7 ?_;refine bm rfl rfl ?_;refine aU ?_;refine aB func237 rfl (qH x y _ hx hy) ?_;rintro e _ ⟨rfl, ex⟩;refine aU ?_;exact aa4 rfl rfl ⟨rfl, ex⟩
def pG (w : aa9) (g n c : Nat) (b : UInt8) : Prop := ∃ tl : List Value, aq w g 5 ((List.replicate n b).map bv ++ tl).toArray ∧ n + tl.length = c
theorem pG.ext {c : Nat} (h : pG w g n c b) (k : Ext w w') : pG w' g n c b := by obtain ⟨tl, h1, h2⟩ := h; exact ⟨tl, h1.ext k, h2⟩
theorem pG.at {w : aa9} {g n c m : Nat} {b : UInt8} (h : pG w g n c b) (hm : m ≤ n) : At w (cf g) ((List.replicate m b).map bv) := by
 obtain ⟨tl, h1, h2⟩ := h;refine h1.at 0 _ fun j u hu => ?_;have hj : j < m := by have := (List.getElem?_eq_some_iff.1 hu).1; simpa using this
 rw [Nat.zero_add];rw [List.map_replicate, List.getElem?_replicate_of_lt hj] at hu;simp only [List.map_replicate, List.getElem?_toArray];rw [List.getElem?_append_left So, List.getElem?_replicate_of_lt Om];exact hu
theorem Ln {tl : List Value} (hm : m ≤ tl.length) :
  ((List.replicate n b).map bv ++ tl).take n ++ (List.replicate m b).map bv ++ ((List.replicate n b).map bv ++ tl).drop (n + ((List.replicate m b).map bv).length) = (List.replicate (n + m) b).map bv ++ tl.drop m := by
 simp only [List.map_replicate, List.length_replicate];rw [List.take_append_of_le_length (by simp), List.take_of_length_le (by simp), List.drop_append, List.drop_of_length_le (by simp), List.nil_append, List.length_replicate, show n + m - n = m by omega, List.replicate_append_replicate]
theorem Ee (A : Oa) (c k : Nat) (b : UInt8) (w : aa9) (HA : Bs w A 1 [b]) (YZ : 0 < k) (hk : k ≤ 4000) :
  Ct 241 #[.slice A 1 c, .int .i64 (k : Int)] w fun e w' => ∃ g C, e = .returned (.slice (cf g) k k) ∧ pG w' g k C b ∧ w.heap.size ≤ g ∧ Ext w w' := by
 refine ai 77 func241 ?_;intro _ aa4;refine aU ?_;refine aB func261 rfl (Mh 1 k _ Om Om) ?_;rintro e _ ⟨rfl, ex⟩;refine au 1 ?_;replace HA := HA.ext ex;rw [show 1 * k / 18446744073709551616 = 0 by omega, show 1 * k % 18446744073709551616 = k by omega]; have E1 := ex;refine aU ?_;refine af (Qo rfl (uj k Om _)) rfl ?_;rintro _ _ ⟨g, cs, rfl, B2, hcs, hg, ex⟩;replace HA := HA.ext ex;have E2 := E1.ext ex;refine au 2 ?_;refine ak (O9 (s := 1) (h := k) (m := k) rfl rfl rfl Tn.u Kr rfl rfl Om hcs) ?_;refine aU ?_;refine af (iy (cs := [b].map bv) rfl rfl Tn.u Kr B2 HA.2 (by show 1 = min 1 k; omega) (by show 0 + 1 ≤ cs.size; omega) aJ) rfl ?_;rintro _ w3 ⟨rfl, B3, cg⟩
 have YU : w.heap.size ≤ g := Nat.le_trans E1.size hg; have E3 := E2.aw cg YU; have R3 : pG w3 g 1 cs.size b := ⟨cs.toList.drop 1, B3.congr (by simp), by simp; omega⟩
 refine aU ?_;refine aE (fun n' L wr => ∃ i : Nat, L = [(7, .int .i64 (k : Int)), (8, .int .i64 (k : Int)), (9, .slice (cf g) k k), (10, .int .i64 (i : Int))] ∧ n' = k - i ∧ (1 ≤ i ∧ i ≤ k ∧ Ext w wr ∧ pG wr g i cs.size b)) _ _ ⟨1, rfl, rfl, Om, Om, E3, R3⟩ Ls ?_;rintro _ n' L wr ⟨i, rfl, rfl, _, _, F, R⟩ YW;refine aa1 (fun YX => ?_) (fun YX => ?_)
 ·refine au 7 ?_;refine ak (EC rfl rfl) ?_;rw [show (if (k : Int) < (i : Int) then (k : Int) else (i : Int)) = (i : Int) by rw [if_neg Om]];refine aU ?_;refine aD Kr 10 rfl ?_; intro YV ex YY;replace F := F.ext ex; replace R := R.ext ex;refine zm [0, 1, 2] ?_;refine dF 3 rfl (fun _ => oI (s := 1) rfl rfl Tn.u Kr rfl Om) ?_;rw [show lZ (cf g) k i 1 = some (⟨g, i, none⟩ : Addr) by unfold lZ; rw [if_neg Om, Nat.mul_one]; show some ((⟨g, 0, none⟩ : Addr).add i) = _; rw [add_lit, Nat.zero_add]];refine zm [4, 5] ?_;refine dF 6 rfl (fun _ => j8 (s := 1) rfl rfl Tn.u Kr rfl Om) ?_;obtain ⟨tl, BR, hl⟩ := R
  have R : pG YV g i cs.size b := ⟨tl, BR, hl⟩
  refine aR 7 Kr ?_; refine bE rfl (iy (cs := (List.replicate (min i (k - i)) b).map bv) rfl rfl Tn.u Kr BR (R.at Om) (by simp) So aJ) rfl ?_;rintro _ _ ⟨rfl, B5, cg⟩;refine ⟨.inl rfl, ?_⟩;rw [Ln Om] at B5; have F5 := F.aw cg YU;refine my 8 rfl (aO rfl rfl (bk (n := i + min i (k - i)) (by simp) Om)) ?_;refine BL [9] ?_;refine au 5 ?_;refine ae ?_;refine YW _ _ ⟨i + min i (k - i), rfl, rfl, Om, Om, F5, ⟨_, B5, by simp; omega⟩⟩ Om Ls
 refine aU ?_;refine aa4 rfl ?_;obtain rfl : i = k := Om
 exact ⟨g, cs.size, rfl, R, YU, F⟩
def VP (a b : UInt8) : List UInt8 := a :: (List.replicate 30 255 ++ [b])
theorem jk (a b : UInt8) (w : aa9) :
  Ct 204 #[.int .u8 (a.toNat : Int), .int .u8 (b.toNat : Int)] w fun e w' => ∃ g, e = .returned (.slice (cf g) 32 32) ∧ Bs w' (cf g) 32 (VP a b) ∧ Ext w w' := by
 refine ai 15 func204 ?_;intro _ aa4;refine aU ?_;refine af (aF (z := .int .u8 0) Tn.u Kr rfl rfl rfl rfl rfl) rfl ?_;rintro _ w1 ⟨g1, rfl, B1, _, ex⟩;have E1 := ex; have H1 : Bs w1 (cf g1) 1 [255] := aX (xs := [255]) B1 rfl;refine aB func241 rfl (Ee _ 1 32 255 _ H1 Om Om) ?_;rintro e _ ⟨g, _, rfl, ⟨tl, B2, _⟩, hg, ex⟩;have E2 := E1.ext ex; have YU : w.heap.size ≤ g := Nat.le_trans E1.size hg;refine au 10 ?_;refine ak (aC rfl rfl Tn.u Kr (j := 0) rfl Om) ?_;refine af (az rfl rfl rfl Kr B2 (by simp)) rfl ?_;rintro _ _ ⟨rfl, B3, cg⟩;have E3 := E2.aw cg YU;refine ak (aC rfl rfl Tn.u Kr (j := 31) rfl Om) ?_;refine af (az rfl rfl rfl Kr B3 (by simp)) rfl ?_;rintro _ _ ⟨rfl, B4, cg⟩;have E4 := E3.aw cg YU;refine aU ?_;refine aa4 rfl ?_;refine ⟨g, rfl, ⟨rfl, B4.at 0 _ fun j u hu => ?_⟩, E4⟩;have hj : j < 32 := (List.getElem?_eq_some_iff.1 hu).1;rw [← hu];simp only [Nat.zero_add, List.map_replicate, List.setIfInBounds_toArray, List.getElem?_toArray];rw [show (List.replicate 32 (bv 255) ++ tl).set 0 (.int .u8 (a.toNat : Int)) = bv a :: (List.replicate 31 (bv 255) ++ tl) from rfl];rw [show (bv a :: (List.replicate 31 (bv 255) ++ tl)).set 31 (.int .u8 (b.toNat : Int)) = (bv a :: (List.replicate 30 (bv 255) ++ [bv b])) ++ tl from rfl];rw [List.getElem?_append_left (by simpa using hj)];rfl
def FE (cs : Array Value) (a : Fp.F) : Prop := Fe cs a.val
theorem FE.of (h : Fe cs x) : FE cs (Fp.of x) := by unfold FE; rw [Fp.mL, Nat.mod_eq_of_lt h.lt]; exact h
theorem FE.congr {a b : Fp.F} (h : FE cs a) (e : a = b) : FE cs b := e ▸ h
theorem FE.size {a : Fp.F} (h : FE cs a) : cs.size = 5 := Fe.size h
theorem FE.one {a : Fp.F} (h : FE cs a) : cs.all (·.oneCell') = true := Fe.one h
theorem FE.zero : FE (fe (fun _ => 0)) 0 := Fe.zero
section
variable {a b : Fp.F}
theorem bo (ha : FE cs a) (hb : FE ds b) (w : aa9) : Ct 144 #[.agg cs, .agg ds] w fun e w' => ∃ es, e = .returned (.agg es) ∧ FE es (a * b) ∧ Ext w w' :=
 (zb ha hb w).mono fun _ _ ⟨es, h1, h2, h3⟩ => ⟨es, h1, by unfold FE; rw [Fp.val_mul]; exact h2, h3⟩
theorem eB (ha : FE cs a) (hb : FE ds b) (w : aa9) : Ct 151 #[.agg cs, .agg ds] w fun e w' => ∃ es, e = .returned (.agg es) ∧ FE es (a + b) ∧ Ext w w' :=
 (Kx ha hb w).mono fun _ _ ⟨es, h1, h2, h3⟩ => ⟨es, h1, by unfold FE; rw [Fp.val_add]; exact h2, h3⟩
theorem gL (ha : FE cs a) (hb : FE ds b) (w : aa9) : Ct 206 #[.agg cs, .agg ds] w fun e w' => ∃ es, e = .returned (.agg es) ∧ FE es (a - b) ∧ Ext w w' :=
 (Bp ha hb w).mono fun _ _ ⟨es, h1, h2, h3⟩ => ⟨es, h1, by unfold FE; rw [Fp.val_sub]; exact h2, h3⟩
theorem iG (ha : FE cs a) (w : aa9) : Ct 208 #[.agg cs] w fun e w' => ∃ es, e = .returned (.agg es) ∧ FE es (-a) ∧ Ext w w' :=
 (Md ha w).mono fun _ _ ⟨es, h1, h2, h3⟩ => ⟨es, h1, by unfold FE; rw [Fp.val_neg]; exact h2, h3⟩
theorem bY (ha : FE cs a) (w : aa9) : Ct 205 #[.agg cs] w fun e w' => ∃ es, e = .returned (.agg es) ∧ FE es (a * a) ∧ Ext w w' :=
 (zJ ha w).mono fun _ _ ⟨es, h1, h2, h3⟩ => ⟨es, h1, by unfold FE; rw [Fp.val_mul]; exact h2, h3⟩
theorem dw (n : Nat) (w : aa9) (hn : n < 18446744073709551616) : Ct 143 #[.int .u64 (n : Int)] w fun e w' => ∃ es, e = .returned (.agg es) ∧ FE es (Fp.of n) ∧ Ext w w' :=
 (Mo n w hn).mono fun _ _ ⟨es, h1, h2, h3⟩ => ⟨es, h1, FE.of h2, h3⟩
theorem eo (ha : FE cs a) (hb : FE ds b) (w : aa9) : Ct 242 #[.agg cs, .agg ds] w fun e w' => e = .returned (.bool (decide (a = b))) ∧ Ext w w' :=
 (wM ha hb w).mono fun _ _ ⟨h1, h2⟩ => ⟨h1.trans (dZ Fp.val_inj), h2⟩
theorem IZ (ha : FE cs a) (w : aa9) : Ct 243 #[.agg cs] w fun e w' => e = .returned (.bool (decide (a = 0))) ∧ Ext w w' :=
 (JA ha w).mono fun _ _ ⟨h1, h2⟩ => ⟨h1.trans (dZ Fp.val_eq_zero), h2⟩
theorem jI (ha : FE cs a) (w : aa9) : Ct 156 #[.agg cs] w (ck w (.bool (decide (a.val % 2 = 1)))) := Ks ha w
end
theorem JY (a : Fp.F) (N j : Nat) : Fp.pow a (N / 2 ^ j) = if N / 2 ^ j % 2 = 1 then Fp.pow a (N / 2 ^ (j + 1)) * Fp.pow a (N / 2 ^ (j + 1)) * a else Fp.pow a (N / 2 ^ (j + 1)) * Fp.pow a (N / 2 ^ (j + 1)) := by
 have e : N / 2 ^ (j + 1) = N / 2 ^ j / 2 := by rw [Nat.pow_succ, Nat.div_div_eq_div_mul]
 rw [e, ← Fp.lr];split
 ·rw [← Fp.pow_succ]; congr 1; omega
 congr 1; omega
theorem Ff (es : Lb) (j : Nat) (hj : j / 8 < es.length) : (es.getD (j / 8) 0).toNat / 2 ^ (j % 8) % 2 = Fp.num es / 2 ^ j % 2 := by
 have h1 := Fp.mU es (j / 8) Om;have h2 : es.drop (j / 8) = es[j / 8] :: es.drop (j / 8 + 1) := List.drop_eq_getElem_cons hj;rw [h2, Fp.num] at h1;rw [Fp.nD j, Nat.mul_comm, ← Nat.div_div_eq_div_mul, ← h1, List.getD_eq_getElem?_getD, List.getElem?_eq_getElem hj];show (es[j / 8]).toNat / _ % 2 = _;generalize (es[j / 8]).toNat = x;generalize Fp.num (es.drop (j / 8 + 1)) = y;have hlt : j % 8 < 8 := Nat.mod_lt _ Om;generalize j % 8 = m at hlt;have : m = 0 ∨ m = 1 ∨ m = 2 ∨ m = 3 ∨ m = 4 ∨ m = 5 ∨ m = 6 ∨ m = 7 := Om
 rcases this with rfl | rfl | rfl | rfl | rfl | rfl | rfl | rfl <;> simp only [Nat.reducePow] <;> omega
theorem LS (x m : Nat) (hm : m < 8) : (x : Int) / 2 ^ (min ((m : Int)).toNat IntKind.u8.bits) = ((x / 2 ^ m : Nat) : Int) := by
 have e : min ((m : Int)).toNat IntKind.u8.bits = m := by show min m 8 = m; omega
 rw [e, Int.natCast_ediv, Int.natCast_pow]; rfl
theorem Rz (x : Nat) (hx : x < 256) : bits .and .u8 (x : Int) 1 = ((x % 2 : Nat) : Int) := by have h := (bJ (p := x) (q := 1) hx Om).1;rw [show ((1 : Int)) = ((1 : Nat) : Int) from rfl, h, Nat.and_one_is_mod]
theorem jC {a : Fp.F} (ha : FE cs a) (A : Oa) (n c : Nat) (es : Lb) (w : aa9) (HA : Bs w A n es) (hn : n ≤ 1000) :
  Ct 203 #[.agg cs, .slice A n c] w fun e w' => ∃ ds, e = .returned (.agg ds) ∧ FE ds (Fp.pow a (Fp.num es)) ∧ Ext w w' := by
 have hle := HA.1;have Y3 := HA;refine aH (s := 5) 31 func203 rfl rfl rfl underlying134 rfl Kr rfl ?_;intro _ aa4;refine aU ?_;intro w1 g1 (B1 : aq _ _ _ (cs)) Zg ex;have E1 := ex; have Zh := B1.lt;refine aU ?_;intro w2 g2 (B2 : aq _ _ _ (fe (fun _ => 0))) Za ex;have E2 := E1.ext ex; replace B1 := B1.ext ex; have YX : w.heap.size ≤ g2 := Nat.le_trans E1.size Za; have Zb := B2.lt;refine aU ?_;refine gj 0 (fun n' L wr => ∃ (b g4 : Nat) (ds : Array Value), L = [(1, .slice A n c), (2, .pointer (cf g1)), (4, .pointer (cf g2)), (5, .pointer (cf g4)), (6, .int .i64 (b : Int))] ∧ n' = 1 + b ∧ (b ≤ 8 * n ∧ w.heap.size ≤ g4 ∧ g1 < g2 ∧ g2 < g4 ∧ Ext w wr ∧ aq wr g1 134 cs ∧ aq wr g2 134 (fe (fun _ => 0)) ∧ aq wr g4 134 ds ∧ FE ds (Fp.pow a (Fp.num es / 2 ^ b)))) rfl ?_ ?_
 ·rintro G n' L wr ⟨b, g4, ds, rfl, rfl, _, YU, YZ, Y0, F, C1, C2, C4, D⟩ YW;refine aa1 (fun Zc => ?_) (fun Zc => ?_)
  ·skip
   obtain ⟨j, rfl⟩ : ∃ i, b = i + 1 := ⟨b - 1, Om⟩
   rw [show (((j + 1 : Nat) : Int) - 1) = (j : Int) by omega];have Y2 : j / 8 < n := Om
   have hpb := JY a (Fp.num es) j;have hnb := Ff es j Om;obtain ⟨b1, Zd, x, rfl, hx, YV⟩ := Y3.byte (k := j / 8) Y2;have hcx := (F.cell (dR YV)).trans YV;have hxl := x.toNat_lt;rw [← hx.out] at hnb;have hxd : x.toNat / 2 ^ (j % 8) < 256 := Nat.lt_of_le_of_lt (Nat.div_le_self _ _) Om;refine aU ?_;refine aB func205 rfl (bY D _) ?_;rintro e w6 ⟨d6, rfl, D6, ex⟩;refine au 1 ?_;have F6 := F.ext ex; replace C1 := C1.ext ex; replace C2 := C2.ext ex; replace C4 := C4.ext ex;refine af (ag rfl rfl (by rw [D6.size]; kernel_rfl) C4 (by rw [D.size, D6.size]) D6.one) rfl ?_;rintro _ _ ⟨rfl, B7, cg⟩;replace F := F6.aw cg YU; replace C1 := C1.aw cg Om; replace C2 := C2.aw cg Om; replace C4 := B7; have hcx := (F.cell (dR YV)).trans YV;refine au 7 ?_;refine ak (dI rfl rfl Om (show IntKind.i64.wrap ((j : Int).tdiv 8) = ((j / 8 : Nat) : Int) from bk rfl Om)) ?_;refine ak (aC rfl rfl Tn.u Kr (j := j / 8) rfl Y2) ?_;refine ak (ah rfl Tn.u rfl hcx) ?_;refine au 1 ?_;refine ak (cR rfl rfl Om (show ((j : Int).tmod 8) = ((j % 8 : Nat) : Int) from rfl)) ?_;refine ak (cn rfl rfl Om (LS _ _ Om)) ?_;refine ak (cT rfl rfl (Rz _ hxd)) ?_;refine aa1 (fun Ze => ?_) (fun Ze => ?_)
   ·refine aU ?_;refine aB func144 rfl (bo D6 ha _) ?_;rintro e _ ⟨d8, rfl, D8, ex⟩;refine au 1 ?_;have F8 := F.ext ex; replace C1 := C1.ext ex; replace C2 := C2.ext ex; replace C4 := C4.ext ex;refine af (ag rfl rfl (by rw [D8.size]; kernel_rfl) C4 (by rw [D6.size, D8.size]) D8.one) rfl ?_;rintro _ _ ⟨rfl, B9, cg⟩;replace F := F8.aw cg YU; replace C1 := C1.aw cg Om; replace C2 := C2.aw cg Om; replace C4 := B9;refine aU ?_;refine bW ?_;refine YW _ _ ⟨j, g4, d8, rfl, rfl, Om, YU, YZ, Y0, F, C1, C2, C4, D8.congr (by rw [hpb, if_pos Om])⟩ Om Ls
   refine aU ?_;refine bW ?_;refine YW _ _ ⟨j, g4, d6, rfl, rfl, Om, YU, YZ, Y0, F, C1, C2, C4, D6.congr (by rw [hpb, if_neg Om])⟩ Om Ls
  refine au 5 ?_;refine af (ag rfl rfl (by rw [D.size]; kernel_rfl) C2 (by rw [aj, D.size]) D.one) rfl ?_;rintro _ w6 ⟨rfl, B6, cg⟩;have F6 := F.aw cg YX;refine aU ?_;refine bQ ?_;exact aa4 rfl B6 D.size ⟨_, rfl, D.congr (by rw [show b = 0 by omega, Nat.pow_zero, Nat.div_one]), F6⟩
 intro G YW;refine aU ?_;refine aB func143 rfl (dw 1 _ Om) ?_;rintro e _ ⟨d3, rfl, F3, ex⟩;have E3 := E2.ext ex; replace B1 := B1.ext ex; replace B2 := B2.ext ex;refine aU ?_;intro w4 g4 (B4 : aq _ _ _ (fe (fun _ => 0))) Zf ex;have E4 := E3.ext ex; replace B1 := B1.ext ex; have Zb := B2.lt; replace B2 := B2.ext ex; have YU : w.heap.size ≤ g4 := Nat.le_trans E3.size Zf;refine af (ag rfl rfl (by rw [F3.size]; kernel_rfl) B4 (by rw [aj, F3.size]) F3.one) rfl ?_;rintro _ _ ⟨rfl, B5, cg⟩;have E5 := E4.aw cg YU; replace B1 := B1.aw cg (by have := B1.lt; omega); replace B2 := B2.aw cg Om;refine au 6 ?_;refine ak (cS rfl rfl (bk (n := 8 * n) Om Om)) ?_;refine au 3 ?_;refine dB ?_; intro Zi YY;refine iL ?_;refine ae (YY ?_);exact YW _ _ ⟨8 * n, g4, d3, rfl, rfl, Nat.le_refl _, YU, Om, by have := E3.size; omega, E5, B1, B2, B5, F3.congr (by rw [Nat.div_eq_of_lt (by have := Fp.lG es; rw [hle] at this; rwa [Nat.pow_mul]), Fp.pow_zero]; rfl)⟩ Ls
namespace Sc
def W : Nat := 18446744073709551616
theorem Q6 : 0 < W := by unfold W; omega
theorem Wp (i : Nat) : 0 < W ^ i := Nat.pow_pos Q6
def wl (k n : Nat) : List Nat := Fp.fn k fun j => n / W ^ j % W
def L : Nat := Ed.L
theorem Xm : L = 7237005577332262213973186563042994240857116359379907606001950938285454250989 := rfl
theorem fH (a i : Nat) : a % W ^ (i + 1) = a % W ^ i + W ^ i * (a / W ^ i % W) := by rw [Nat.pow_succ, Nat.mod_mul]
theorem Kq (a b i : Nat) : (a / W ^ i % W + b / W ^ i % W + (a % W ^ i + b % W ^ i) / W ^ i) % W = (a + b) / W ^ i % W ∧ (a / W ^ i % W + b / W ^ i % W + (a % W ^ i + b % W ^ i) / W ^ i) / W = (a % W ^ (i + 1) + b % W ^ (i + 1)) / W ^ (i + 1) := by
 have hp := Wp i;have e1 := fH a i;have e2 := fH b i
 have hS : (a % W ^ (i + 1) + b % W ^ (i + 1)) / W ^ i = a / W ^ i % W + b / W ^ i % W + (a % W ^ i + b % W ^ i) / W ^ i := by rw [e1, e2, show a % W ^ i + W ^ i * (a / W ^ i % W) + (b % W ^ i + W ^ i * (b / W ^ i % W)) = (a % W ^ i + b % W ^ i) + W ^ i * (a / W ^ i % W + b / W ^ i % W) from by grind, Nat.add_mul_div_left _ _ hp];omega
 constructor
 ·rw [← hS]
  have h : a + b = (a % W ^ (i + 1) + b % W ^ (i + 1)) + W ^ (i + 1) * (a / W ^ (i + 1) + b / W ^ (i + 1)) := by have h1 := Nat.mod_add_div a (W ^ (i + 1)); have h2 := Nat.mod_add_div b (W ^ (i + 1));rw [Nat.mul_add]; omega
  rw [h, Nat.pow_succ, Nat.mul_assoc, Nat.add_mul_div_left _ _ hp, Nat.add_mul_mod_self_left]
 rw [← hS, Nat.div_div_eq_div_mul, Nat.pow_succ]
def Cb (a b i : Nat) : Nat := if a % W ^ i < b % W ^ i then 1 else 0
theorem Er (a b i : Nat) : Cb a b i ≤ 1 := by unfold Cb; split <;> omega
theorem lex_lt {A B la lb : Nat} (ha : la < P) (hb : lb < P) : la + P * A < lb + P * B ↔ A < B ∨ (A = B ∧ la < lb) := by
 rcases Nat.lt_trichotomy A B with h | h | h
 ·have := Nat.mul_le_mul_left P (Nat.succ_le_of_lt h);grind
 ·grind
 have := Nat.mul_le_mul_left P (Nat.succ_le_of_lt h);grind
theorem Lk (a b i : Nat) : Cb a b (i + 1) = if a / W ^ i % W < b / W ^ i % W + Cb a b i then 1 else 0 := by have hp := Wp i;have key := lex_lt (P := W ^ i) (A := a / W ^ i % W) (B := b / W ^ i % W) (Nat.mod_lt a hp) (Nat.mod_lt b hp);rw [← fH, ← fH] at key;unfold Cb;grind
theorem xo (qa qb M c : Nat) (hc : c ≤ 1) (h : qb + c ≤ qa + 18446744073709551616 * M) : (qa + 18446744073709551616 * M - qb - c) % 18446744073709551616 = (qa % 18446744073709551616 + 2 * 18446744073709551616 - qb % 18446744073709551616 - c) % 18446744073709551616 := Om
theorem OZ {M b ra rb qa qb : Nat} (hp : 0 < P) (ha : a = P * qa + ra) (hb : b = P * qb + rb) (la : ra < P) (lb : rb < P) (h : b ≤ P * M) : (a + P * M - b) / P = qa + M - qb - (if ra < rb then 1 else 0) ∧ qb + (if ra < rb then 1 else 0) ≤ M := by
 have hq : qb ≤ M := by apply Classical.byContradiction; intro hc;have := Nat.mul_le_mul_left P (show M + 1 ≤ qb by omega);grind
 split
 ·rename_i hlt
  have YU : qb + 1 ≤ M := by grind
  refine ⟨?_, YU⟩
  obtain ⟨k, rfl⟩ : ∃ k, M = qb + 1 + k := ⟨M - (qb + 1), Om⟩
  have e : a + P * (qb + 1 + k) - b = (P + ra - rb) + P * (qa + k) := by grind
  rw [e, Nat.add_mul_div_left _ _ hp, Nat.div_eq_of_lt Om]; omega
 rename_i hlt;refine ⟨?_, hq⟩
 obtain ⟨k, rfl⟩ : ∃ k, M = qb + k := ⟨M - qb, Om⟩
 have e : a + P * (qb + k) - b = (ra - rb) + P * (qa + k) := by grind
 rw [e, Nat.add_mul_div_left _ _ hp, Nat.div_eq_of_lt Om]; omega
theorem NU {b : Nat} (hb : b ≤ W ^ 4) (hi : i < 4) : (a + W ^ 4 - b) / W ^ i % W = (a / W ^ i % W + 2 * W - b / W ^ i % W - Cb a b i) % W := by
 have hp := Wp i;have e4 : W ^ 4 = W ^ i * (W * W ^ (3 - i)) := by rw [← Nat.mul_assoc, ← Nat.pow_succ, ← Nat.pow_add]; congr 1; omega
 have h := OZ (M := W * W ^ (3 - i)) hp (Nat.div_add_mod a (W ^ i)).symm (Nat.div_add_mod b (W ^ i)).symm (Nat.mod_lt _ hp) (Nat.mod_lt _ hp) Om;rw [e4, h.1];have hc := Er a b i;have h2 := h.2
 unfold Cb at *
 exact xo _ _ _ _ hc (Nat.le_trans h2 (Nat.le_add_left _ _))
theorem EB {b : Nat} (ha : a < W ^ 4) (hb : b < W ^ 4) : Cb a b 4 = if a < b then 1 else 0 := by unfold Cb; rw [Nat.mod_eq_of_lt ha, Nat.mod_eq_of_lt hb]
theorem sR : L < W ^ 4 := by decide +kernel
theorem Vf : 2 * L < W ^ 4 := by decide +kernel
theorem V4 : wl 4 L = [0x5812631a5cf5d3ed, 0x14def9dea2f79cd6, 0, 0x1000000000000000] := by decide +kernel
end Sc
theorem Hr (x y c : Nat) (hc : c ≤ 1) (w : aa9) :
  (callFunc 263 #[.int .u64 (x : Int), .int .u64 (y : Int), .int .u64 (c : Int)]).run Tryz.prog w = .ok (.value (.tuple #[.int .u64 (((x + 18446744073709551616 - y - c) % 18446744073709551616 : Nat) : Int), .int .u64 ((if x < y + c then 1 else 0 : Nat) : Int)])) w := by
 rw [run_callFunc_extern func263 Kr Kr Kr (e := sub64Entry) Kr, run_sub64 x y c hc];rfl
def ws (f : Nat → Nat) : Array Value := aM .u64 (Fp.fn 4 f)
theorem ao (f : Nat → Nat) : (ws f).size = 4 := by rw [ws, bf, Fp.eE]
theorem lJ (f : Nat → Nat) (hi : i = j) (h : j < 4) : (ws f)[i]? = some (.int .u64 (f j : Nat)) := by subst hi; rw [ws, dQ _ _ _ (by rw [Fp.eE]; exact h), Fp.sQ f h]
theorem MJ (f : Nat → Nat) (i x : Nat) : (ws f).setIfInBounds i (.int .u64 (x : Int)) = ws (fun j => if j = i then x else f j) := by rw [ws, gu, Fp.Dn, ws]
theorem dj (f : Nat → Nat) : (ws f).all (·.oneCell') = true := cZ _ _
theorem iN {f g : Nat → Nat} (h : ∀ j, j < 4 → f j = g j) : ws f = ws g := by unfold ws; rw [Fp.pX h]
def z4 : Nat → Nat := fun _ => 0
namespace Sc
def wd (n j : Nat) : Nat := n / W ^ j % W
theorem wC (n j : Nat) : wd n j < 18446744073709551616 := Nat.mod_lt _ Q6
def nV (n i j : Nat) : Nat := if j < i then wd n j else 0
theorem qT (n : Nat) : ws (nV n 4) = ws (wd n) := iN fun j h => by unfold nV; rw [if_pos h]
theorem oO (n : Nat) : ws z4 = ws (nV n 0) := iN fun j h => by unfold nV; rw [if_neg Om]; rfl
theorem oV (h : x = wd n i) : (ws (nV n i)).setIfInBounds (0 + i) (.int .u64 (x : Int)) = ws (nV n (i + 1)) := by
 rw [Nat.zero_add, MJ];refine iN fun j hj => ?_;unfold nV;by_cases h1 : j = i
 ·grind
 grind
def Qu (a b i : Nat) : Nat := (a % W ^ i + b % W ^ i) / W ^ i
theorem TZ (a b i : Nat) : Qu a b i ≤ 1 := by unfold Qu;have h1 := Nat.mod_lt a (Wp i); have h2 := Nat.mod_lt b (Wp i);have := Nat.div_lt_of_lt_mul (show a % W ^ i + b % W ^ i < W ^ i * 2 by omega);omega
theorem Ax (a b i : Nat) : (wd a i + wd b i + Qu a b i) % 18446744073709551616 = wd (a + b) i ∧ (wd a i + wd b i + Qu a b i) / 18446744073709551616 = Qu a b (i + 1) := Kq a b i
theorem Nx {b : Nat} (hb : b ≤ W ^ 4) (hi : i < 4) : (wd a i + 18446744073709551616 - wd b i - Cb a b i) % 18446744073709551616 = wd (a + W ^ 4 - b) i := by
 have h := NU (a := a) hb hi;have h1 := wC a i; have h2 := wC b i; have h3 := Er a b i
 unfold wd at *
 rw [h]
 simp only [show W = 18446744073709551616 from rfl] at *
 omega
theorem Ms (a b : Nat) : Cb a b 0 = 0 := by unfold Cb; rw [if_neg (by simp [Nat.mod_one])]
theorem LV (a b : Nat) : Qu a b 0 = 0 := by unfold Qu; grind
theorem J8 (a b i : Nat) : (if wd a i < wd b i + Cb a b i then 1 else 0) = Cb a b (i + 1) := (Lk a b i).symm
end Sc
theorem sP (w : aa9) : Ct 245 #[] w (ck w (.agg (ws (Sc.wd Sc.L)))) := by
 have E := Ext.refl w
 have hL : ws (Sc.wd Sc.L) = #[.int .u64 6346243789798364141, .int .u64 1503914060200516822, .int .u64 0, .int .u64 1152921504606846976] := by have := Sc.V4;unfold Sc.wl at this;show aM .u64 (Fp.fn 4 (Sc.wd Sc.L)) = _;rw [show Fp.fn 4 (Sc.wd Sc.L) = _ from this];rfl
 refine aH (s := 4) 2 func245 rfl rfl rfl underlying139 rfl Kr rfl ?_;intro _ aa4;refine aU ?_;intro w1 g0 (B0 : aq _ _ _ (ws z4)) YU ex;replace E := E.ext ex;refine au 4 ?_;refine ak (aA rfl (cells := ws (Sc.wd Sc.L)) (by rw [hL]; kernel_rfl)) ?_;refine af (ag rfl rfl (by rw [ao]; kernel_rfl) B0 (by rw [ao, ao]) (dj _)) rfl ?_;rintro _ _ ⟨rfl, D0, cg⟩;replace E := E.aw cg YU;refine aU ?_;exact aa4 rfl D0 (ao _) ⟨rfl, E⟩
theorem AK (a b : Nat) (w : aa9) (hb : b ≤ Sc.W ^ 4) :
  Ct 244 #[.agg (ws (Sc.wd a)), .agg (ws (Sc.wd b))] w (ck w (.tuple #[.agg (ws (Sc.wd (a + Sc.W ^ 4 - b))), .int .u64 ((Sc.Cb a b 4 : Nat) : Int)])) := by
 have E := Ext.refl w;refine cF (s := 4) 28 func244 rfl rfl rfl underlying139 rfl Kr rfl ?_;intro _ aa4;refine aU ?_;intro w1 g2 (B2 : aq _ _ _ (ws (Sc.wd a))) YW ex;replace E := E.ext ex;refine aU ?_;intro w2 g3 (B3 : aq _ _ _ (ws (Sc.wd b))) YX ex;obtain ⟨E,B2⟩ := aS ex E B2;have YY := E.size;refine aU ?_;intro w3 g4 (B4 : aq _ _ _ (ws z4)) YZ ex;obtain ⟨E,B2,B3⟩ := bh ex E B2 B3;have Y0 := B2.lt; have Y2 := B3.lt; have Y3 := B4.lt;refine aU ?_;intro w4 g6 (B6 : aq _ _ _ (ws z4)) Za ex;obtain ⟨E,B2,B3,B4⟩ := bG ex E B2 B3 B4;rw [Sc.oO (a + Sc.W ^ 4 - b)] at B6;refine aU ?_;refine aE (fun n' L wr => ∃ (i k : Nat), L = [(2, .pointer (cf g2)), (3, .pointer (cf g3)), (4, .pointer (cf g4)), (6, .pointer (cf g6)), (7, .int .u64 (k : Int)), (9, .int .i64 (i : Int))] ∧ n' = 4 - i ∧ (i ≤ 4 ∧ k = Sc.Cb a b i ∧ Ext w wr ∧ aq wr g2 139 (ws (Sc.wd a)) ∧ aq wr g3 139 (ws (Sc.wd b)) ∧ aq wr g4 139 (ws z4) ∧ aq wr g6 139 (ws (Sc.nV (a + Sc.W ^ 4 - b) i)))) _ _ ⟨0, 0, rfl, rfl, Om, (Sc.Ms a b).symm, E, B2, B3, B4, B6⟩ Ls ?_;rintro _ n' L wr ⟨i, k, rfl, rfl, _, hk, E, B2, B3, B4, B6⟩ YU;refine aa1 (fun YV => ?_) (fun YV => ?_)
 ·refine aU ?_;refine aD Kr 15 rfl ?_; intro Zb ex Zc;obtain ⟨E,B2,B3,B4,B6⟩ := fR ex E B2 B3 B4 B6;refine zm [0, 1, 2] ?_;refine my 3 rfl (ah rfl Tn.u rfl (B2.get (lJ _ (Nat.zero_add i) Om))) ?_;refine zm [4, 5] ?_;refine my 6 rfl (ah rfl Tn.u rfl (B3.get (lJ _ (Nat.zero_add i) Om))) ?_;refine zm [7] ?_;refine my 8 rfl ((oS rfl (Hr _ _ _ (hk ▸ Sc.Er a b i)))) ?_;refine BL [9, 10, 11, 12] ?_;refine au 5 ?_;subst hk;rw [Sc.J8 a b i];refine aR 13 Kr ?_; refine bE rfl (az rfl rfl rfl Kr B6 (by rw [ao]; omega)) rfl ?_;rintro _ _ ⟨rfl, D6, cg⟩;refine ⟨.inl rfl, ?_⟩;rw [Sc.oV (Sc.Nx hb Om)] at D6; replace E := E.aw cg Om; replace B2 := B2.aw cg Om; replace B3 := B3.aw cg Om; replace B4 := B4.aw cg Om; replace B6 := D6;refine BL [14] ?_;refine au 10 ?_;refine ae ?_;refine YU _ _ ⟨i + 1, _, rfl, rfl, Om, rfl, E, B2, B3, B4, B6⟩ Om Ls
 obtain rfl : i = 4 := Om
 subst hk;rw [Sc.qT] at B6;refine au 9 ?_;refine af (ag rfl rfl (by rw [ao]; kernel_rfl) B4 (by rw [ao, ao]) (dj _)) rfl ?_;rintro _ _ ⟨rfl, D4, cg⟩;replace E := E.aw cg Om;refine aU ?_;exact aa4 rfl rfl D4 (ao _) ⟨rfl, E⟩
theorem yK (a b : Nat) (w : aa9) :
  Ct 235 #[.agg (ws (Sc.wd a)), .agg (ws (Sc.wd b))] w (ck w (.tuple #[.agg (ws (Sc.wd (a + b))), .int .u64 ((Sc.Qu a b 4 : Nat) : Int)])) := by
 have E := Ext.refl w;refine cF (s := 4) 28 func235 rfl rfl rfl underlying139 rfl Kr rfl ?_;intro _ aa4;refine aU ?_;intro w1 g2 (B2 : aq _ _ _ (ws (Sc.wd a))) YW ex;replace E := E.ext ex;refine aU ?_;intro w2 g3 (B3 : aq _ _ _ (ws (Sc.wd b))) YX ex;obtain ⟨E,B2⟩ := aS ex E B2;have YY := E.size;refine aU ?_;intro w3 g4 (B4 : aq _ _ _ (ws z4)) YZ ex;obtain ⟨E,B2,B3⟩ := bh ex E B2 B3;have Y0 := B2.lt; have Y2 := B3.lt; have Y3 := B4.lt;refine aU ?_;intro w4 g6 (B6 : aq _ _ _ (ws z4)) Za ex;obtain ⟨E,B2,B3,B4⟩ := bG ex E B2 B3 B4;rw [Sc.oO (a + b)] at B6;refine aU ?_;refine aE (fun n' L wr => ∃ (i k : Nat), L = [(2, .pointer (cf g2)), (3, .pointer (cf g3)), (4, .pointer (cf g4)), (6, .pointer (cf g6)), (7, .int .u64 (k : Int)), (9, .int .i64 (i : Int))] ∧ n' = 4 - i ∧ (i ≤ 4 ∧ k = Sc.Qu a b i ∧ Ext w wr ∧ aq wr g2 139 (ws (Sc.wd a)) ∧ aq wr g3 139 (ws (Sc.wd b)) ∧ aq wr g4 139 (ws z4) ∧ aq wr g6 139 (ws (Sc.nV (a + b) i)))) _ _ ⟨0, 0, rfl, rfl, Om, (Sc.LV a b).symm, E, B2, B3, B4, B6⟩ Ls ?_;rintro _ n' L wr ⟨i, k, rfl, rfl, _, hk, E, B2, B3, B4, B6⟩ YU;refine aa1 (fun YV => ?_) (fun YV => ?_)
 ·refine aU ?_;refine aD Kr 15 rfl ?_; intro Zb ex Zc;obtain ⟨E,B2,B3,B4,B6⟩ := fR ex E B2 B3 B4 B6;refine zm [0, 1, 2] ?_;refine my 3 rfl (ah rfl Tn.u rfl (B2.get (lJ _ (Nat.zero_add i) Om))) ?_;refine zm [4, 5] ?_;refine my 6 rfl (ah rfl Tn.u rfl (B3.get (lJ _ (Nat.zero_add i) Om))) ?_;refine zm [7] ?_;refine my 8 rfl ((oS rfl (jh _ _ _ (hk ▸ Sc.TZ a b i)))) ?_;refine BL [9, 10, 11, 12] ?_;refine au 5 ?_;subst hk;rw [(Sc.Ax a b i).2];refine aR 13 Kr ?_; refine bE rfl (az rfl rfl rfl Kr B6 (by rw [ao]; omega)) rfl ?_;rintro _ _ ⟨rfl, D6, cg⟩;refine ⟨.inl rfl, ?_⟩;rw [Sc.oV (Sc.Ax a b i).1] at D6; replace E := E.aw cg Om; replace B2 := B2.aw cg Om; replace B3 := B3.aw cg Om; replace B4 := B4.aw cg Om; replace B6 := D6;refine BL [14] ?_;refine au 10 ?_;refine ae ?_;refine YU _ _ ⟨i + 1, _, rfl, rfl, Om, rfl, E, B2, B3, B4, B6⟩ Om Ls
 obtain rfl : i = 4 := Om
 subst hk;rw [Sc.qT] at B6;refine au 9 ?_;refine af (ag rfl rfl (by rw [ao]; kernel_rfl) B4 (by rw [ao, ao]) (dj _)) rfl ?_;rintro _ _ ⟨rfl, D4, cg⟩;replace E := E.aw cg Om;refine aU ?_;exact aa4 rfl rfl D4 (ao _) ⟨rfl, E⟩
theorem Sc.SS (n j : Nat) (h : j < 4) : Sc.wd (n + Sc.W ^ 4) j = Sc.wd n j := by
 unfold Sc.wd;have e4 : Sc.W ^ 4 = Sc.W ^ j * (Sc.W * Sc.W ^ (3 - j)) := by rw [← Nat.mul_assoc, ← Nat.pow_succ, ← Nat.pow_add]; congr 1; omega
 rw [e4, Nat.add_mul_div_left _ _ (Sc.Wp j), Nat.add_mul_mod_self_left]
theorem vF (a : Nat) (w : aa9) (ha : a < 2 * Sc.L) :
  Ct 236 #[.agg (ws (Sc.wd a))] w (ck w (.agg (ws (Sc.wd (a % Sc.L))))) := by
 have E := Ext.refl w;have hL := Sc.sR;have Y3 := Sc.Vf;have hbor := Sc.EB (a := a) (b := Sc.L) Om hL
 have hge : ¬ a < Sc.L → ws (Sc.wd (a + Sc.W ^ 4 - Sc.L)) = ws (Sc.wd (a % Sc.L)) := fun h => iN fun j hj => by rw [show a + Sc.W ^ 4 - Sc.L = (a - Sc.L) + Sc.W ^ 4 by omega, Sc.SS _ _ hj, Nat.mod_eq_sub_mod Om, Nat.mod_eq_of_lt Om]
 refine aH (s := 4) 15 func236 rfl rfl rfl underlying139 rfl Kr rfl ?_;intro _ aa4;refine aU ?_;intro w1 g1 (B1 : aq _ _ _ (ws (Sc.wd a))) Za ex;replace E := E.ext ex;have hz := E.size;refine aU ?_;intro w2 g2 (B2 : aq _ _ _ (ws z4)) Zb ex;obtain ⟨E,B1⟩ := aS ex E B1;have YY : w.heap.size ≤ g2 := Om;refine aU ?_;refine dA Kr 9 rfl ?_; intro YZ ex Zc;obtain ⟨E,B1,B2⟩ := bh ex E B1 B2;have Y0 := E;have YU := B1;have YW := B2;have X0 := Ext.refl YZ;refine dz 0 rfl Kr ((aP rfl Tn.u rfl (by rw [ao]; kernel_rfl) YU)) rfl ?_;refine dx (fl := [sj 6 3 139 (ws z4)]) rfl ?_;refine j9 1 (some 7) func245 ?_;intro _ ex exb;obtain ⟨E,B1,B2,X0⟩ := bG ex E B1 B2 X0;refine ⟨_, (sP _), ?_⟩;rintro e _ ⟨rfl, ex⟩;refine ⟨_, rfl, ex, ?_⟩;obtain ⟨E,B1,B2,X0⟩ := bG ex E B1 B2 X0;refine j9 2 (some 8) func244 ?_;intro _ ex exb;obtain ⟨E,B1,B2,X0⟩ := bG ex E B1 B2 X0;refine ⟨_, (AK a Sc.L _ Om), ?_⟩;rintro e _ ⟨rfl, ex⟩;refine ⟨_, rfl, ex, ?_⟩;obtain ⟨E,B1,B2,X0⟩ := bG ex E B1 B2 X0;rw [hbor];refine ju (dst := some 5) 3 rfl Kr (aL rfl) rfl (aN (aa2 rfl) av) ?_;refine ju (dst := some 9) 4 rfl Kr (cM rfl rfl) rfl (aN (aa2 rfl) av) ?_;refine ju (dst := some 10) 5 rfl Kr (cM rfl rfl) rfl (aN (aa2 rfl) av) ?_;refine gR ⟨(aN (br rfl Kr) av), aa2 rfl, aa2 rfl, (aN (⟨rfl, aa2 rfl⟩) av), (aN (aQ Kr) av)⟩ Kr ?_;rintro _ _ ex ⟨⟨g3, rfl, YV⟩, YX⟩;replace YX := YX g3 rfl;obtain ⟨E,B1,B2,X0⟩ := bG ex E B1 B2 X0;refine cY 7 Kr ?_;refine er rfl (ag rfl rfl (by rw [ao]; kernel_rfl) YV (by rw [ao, ao]) (dj _)) rfl ?_;rintro _ _ ⟨rfl, YV, cg⟩;replace X0 := X0.aw cg YX;refine ⟨X0, ?_⟩;replace E := Y0.ext X0;replace B1 := YU.ext X0;replace B2 := YW.ext X0;refine zm [8] ?_;refine dM Kr ?_;refine aa1 (fun Y2 => ?_) (fun Y2 => ?_)
 ·have hlt : ¬ a < Sc.L := fun h => by grind
  rw [hge hlt] at YV;refine au 2 ?_;refine ak ((aP rfl Tn.u rfl (by rw [ao]; kernel_rfl) YV)) ?_;refine af (ag rfl rfl (by rw [ao]; kernel_rfl) B2 (by rw [ao, ao]) (dj _)) rfl ?_;rintro _ w6 ⟨rfl, D2, cg⟩;replace E := E.aw cg YY;refine aU ?_;exact aa4 rfl D2 (ao _) ⟨rfl, E⟩
 have hlt : a < Sc.L := Classical.byContradiction fun h => by grind
 refine au 4 ?_;refine ak ((aP rfl Tn.u rfl (by rw [ao]; kernel_rfl) B1)) ?_;refine af (ag rfl rfl (by rw [ao]; kernel_rfl) B2 (by rw [ao, ao]) (dj _)) rfl ?_;rintro _ w6 ⟨rfl, D2, cg⟩;replace E := E.aw cg YY;refine aU ?_;exact aa4 rfl D2 (ao _) ⟨by rw [Nat.mod_eq_of_lt hlt], E⟩
theorem Tj (x k : Nat) (h : k < 64) : (x : Int) / 2 ^ (min ((k : Int)).toNat IntKind.u64.bits) = ((x / 2 ^ k : Nat) : Int) := by
 have e : min ((k : Int)).toNat IntKind.u64.bits = k := by show min k 64 = k; omega
 grind
namespace Sc
theorem EV : W = 2 ^ 64 := rfl
theorem Mi (N b : Nat) : wd N (b / 64) / 2 ^ (b % 64) % 2 = N / 2 ^ b % 2 := by
 unfold wd;have hr : b % 64 < 64 := Nat.mod_lt _ Om
 have e : W = 2 ^ (b % 64) * (2 * 2 ^ (63 - b % 64)) := by rw [EV, ← Nat.mul_assoc, ← Nat.pow_succ, ← Nat.pow_add]; congr 1; omega
 have hb : 2 ^ b = W ^ (b / 64) * 2 ^ (b % 64) := by rw [EV, ← Nat.pow_mul, ← Nat.pow_add]; congr 1; omega
 rw [hb, ← Nat.div_div_eq_div_mul];generalize N / W ^ (b / 64) = x;rw [e, Nat.mod_mul_right_div_self, Nat.mod_mul_right_mod]
theorem Pq (o b : Nat) (hb : b < 2) : wd (o + o) 0 / 2 * 2 = wd (o + o) 0 ∧ wd (o + o + b) 0 = wd (o + o) 0 + b := by unfold wd;simp only [show W = 18446744073709551616 from rfl, Nat.pow_zero, Nat.div_one];omega
theorem N6 (o b j : Nat) (hb : b < 2) (hj : j ≠ 0) : wd (o + o + b) j = wd (o + o) j := by
 unfold wd
 obtain ⟨k, rfl⟩ : ∃ k, j = k + 1 := ⟨j - 1, Om⟩
 have e : W ^ (k + 1) = 2 * (9223372036854775808 * W ^ k) := by rw [Nat.pow_succ, show W = 2 * 9223372036854775808 from rfl, ← Nat.mul_assoc 2, Nat.mul_comm _ (2 * 9223372036854775808)]
 rw [e, ← Nat.div_div_eq_div_mul, ← Nat.div_div_eq_div_mul (o + o)];congr 2;omega
theorem CX (o b : Nat) (hb : b < 2) : bits .or .u64 ((wd (o + o) 0 : Nat) : Int) ((b : Nat) : Int) = ((wd (o + o + b) 0 : Nat) : Int) := by
 have h1 := wC (o + o) 0;have h2 := Pq o b hb;have h3 := (cz (p := wd (o + o) 0) (q := b) h1 Om).2.1;rw [h3, h2.2];congr 1;have e : wd (o + o) 0 = 2 ^ 1 * (wd (o + o) 0 / 2) := Om
 rw [e, ← Nat.two_pow_add_eq_or_of_lt (by omega : b < 2 ^ 1)]
theorem TA (o b : Nat) (hb : b < 2) : (ws (wd (o + o))).setIfInBounds (0 + 0) (.int .u64 ((wd (o + o + b) 0 : Nat) : Int)) = ws (wd (o + o + b)) := by
 rw [Nat.zero_add, MJ];refine iN fun j _ => ?_;split
 ·grind
 rename_i h; rw [N6 o b j hb h]
theorem Lf (N b : Nat) : (N / 2 ^ (b + 1) % L + N / 2 ^ (b + 1) % L + N / 2 ^ b % 2) % L = N / 2 ^ b % L := by
 have e : N / 2 ^ b = N / 2 ^ (b + 1) * 2 + N / 2 ^ b % 2 := by rw [Nat.pow_succ, ← Nat.div_div_eq_div_mul]; omega
 generalize N / 2 ^ (b + 1) = q at *
 generalize N / 2 ^ b % 2 = r at *
 rw [e]
 have h2 : q * 2 + r = L * (q / L * 2) + (q % L + q % L + r) := by
  have h3 := Nat.div_add_mod q L;have h4 : L * (q / L * 2) = (L * (q / L)) * 2 := by rw [Nat.mul_assoc]
  rw [h4]; omega
 rw [h2, Nat.mul_add_mod_self_left]
theorem rW : 0 < L := by rw [Xm]; omega
end Sc
theorem rK (A : Oa) (n c N : Nat) (w : aa9) (H : Ns .u64 w A n (Fp.fn n (Sc.wd N))) (hN : N < 2 ^ (64 * n)) (hn : n ≤ 1000) :
  Ct 233 #[.slice A n c] w (ck w (.agg (ws (Sc.wd (N % Sc.L))))) := by
 have E := Ext.refl w;have hLp := Sc.rW;refine aH (s := 4) 35 func233 rfl rfl rfl underlying141 rfl Kr rfl ?_;intro _ aa4;refine aU ?_;intro w1 g2 (B2 : aq _ _ _ (ws z4)) Y3 ex;replace E := E.ext ex;refine aU ?_;refine gj 0 (fun n' L wr => ∃ (b g3 : Nat), L = [(0, .slice A n c), (2, .pointer (cf g2)), (3, .pointer (cf g3)), (4, .int .i64 (b : Int))] ∧ n' = 1 + b ∧ (b ≤ 64 * n ∧ w.heap.size ≤ g3 ∧ g2 < g3 ∧ Ext w wr ∧ aq wr g2 141 (ws z4) ∧ aq wr g3 139 (ws (Sc.wd (N / 2 ^ b % Sc.L))))) rfl ?_ ?_
 ·rintro G n' L wr ⟨b, g3, rfl, rfl, _, YY, YZ, E, B2, B3⟩ YU;refine au 3 ?_;refine ak (fG rfl rfl (show IntKind.i64.wrap ((b : Int) - 1) = (b : Int) - 1 from bj Om Om)) ?_;refine aa1 (fun Y0 => ?_) (fun Y0 => ?_)
  ·refine au 1 ?_
   obtain ⟨k, rfl⟩ : ∃ k, b = k + 1 := ⟨b - 1, Om⟩
   rw [show (((k + 1 : Nat) : Int) - 1) = (k : Int) by omega];have ho := Nat.mod_lt (N / 2 ^ (k + 1)) hLp;have hst := Sc.Lf N k;have hbt := Sc.Mi N k
   obtain ⟨o, hoe⟩ : ∃ o, o = N / 2 ^ (k + 1) % Sc.L := ⟨_, rfl⟩
   rw [← hoe] at B3 ho hst;have YW : N / 2 ^ k % 2 < 2 := Nat.mod_lt _ Om;refine au 1 ?_;refine ak ((aP rfl Tn.u rfl (by rw [ao]; kernel_rfl) B3)) ?_;refine ak ((aP rfl Tn.u rfl (by rw [ao]; kernel_rfl) B3)) ?_;refine aB func235 rfl (yK o o _) ?_;rintro e _ ⟨rfl, ex⟩;obtain ⟨E,B2,B3⟩ := bh ex E B2 B3;refine au 4 ?_;refine af (ag rfl rfl (by rw [ao]; kernel_rfl) B3 (by rw [ao, ao]) (dj _)) rfl ?_;rintro _ _ ⟨rfl, D3, cg⟩;replace E := E.aw cg Om; replace B2 := B2.aw cg Om; replace B3 := D3;refine aU ?_;refine aD Kr 14 rfl ?_; intro Za ex Zb;obtain ⟨E,B2,B3⟩ := bh ex E B2 B3;obtain ⟨b1, Y2, x, rfl, hx, _, hcx⟩ := (H.ext E).get (i := k / 64) Om;have YX := hx.out;rw [Fp.sQ _ Om] at YX;subst YX;have hxd := Nat.lt_of_le_of_lt (Nat.div_le_self (Sc.wd N (k / 64)) (2 ^ (k % 64))) (Sc.wC N (k / 64));refine dF 0 rfl (fun _ => bM rfl rfl Tn.u Kr (j := 0) rfl Om) ?_;refine my 1 rfl (ah rfl Tn.u rfl (B3.get (lJ _ rfl Om))) ?_;refine zm [2, 3] ?_;refine dF 4 rfl (fun _ => dI rfl rfl Om (show IntKind.i64.wrap ((k : Int).tdiv 64) = ((k / 64 : Nat) : Int) from bk rfl Om)) ?_;refine dF 5 rfl (fun _ => aC rfl rfl Tn.u Kr (j := k / 64) rfl Om) ?_;refine my 6 rfl (ah rfl Tn.u rfl hcx) ?_;refine zm [7] ?_;refine dF 8 rfl (fun _ => cR rfl rfl Om (show ((k : Int).tmod 64) = ((k % 64 : Nat) : Int) from rfl)) ?_;refine dF 9 rfl (fun _ => cn rfl rfl Om (Tj _ _ (Nat.mod_lt _ Om))) ?_;refine dF 10 rfl (fun _ => cT rfl rfl (show bits .and .u64 _ 1 = ((N / 2 ^ k % 2 : Nat) : Int) by rw [Ox _ hxd, hbt])) ?_;refine dF 11 rfl (fun _ => jZ rfl rfl (Sc.CX o _ YW)) ?_;refine dF 12 rfl (fun _ => bM rfl rfl Tn.u Kr (j := 0) rfl Om) ?_;refine aR 13 Kr ?_; refine bE rfl (az rfl rfl rfl Kr B3 (by rw [ao]; omega)) rfl ?_;rintro _ _ ⟨rfl, D3, cg⟩;refine ⟨.inl rfl, ?_⟩;rw [Sc.TA o _ YW] at D3; replace E := E.aw cg Om; replace B2 := B2.aw cg Om; replace B3 := D3;refine au 5 ?_;refine ak ((aP rfl Tn.u rfl (by rw [ao]; kernel_rfl) B3)) ?_;refine aB func236 rfl (vF _ _ Om) ?_;rintro e _ ⟨rfl, ex⟩;refine au 1 ?_;obtain ⟨E,B2,B3⟩ := bh ex E B2 B3;rw [hst];refine af (ag rfl rfl (by rw [ao]; kernel_rfl) B3 (by rw [ao, ao]) (dj _)) rfl ?_;rintro _ _ ⟨rfl, D3, cg⟩;replace E := E.aw cg Om; replace B2 := B2.aw cg Om; replace B3 := D3;refine aU ?_;refine bW ?_;refine YU _ _ ⟨k, g3, rfl, rfl, Om, YY, YZ, E, B2, B3⟩ Om Ls
  obtain rfl : b = 0 := Om
  rw [Nat.pow_zero, Nat.div_one] at B3;refine au 4 ?_;refine ak ((aP rfl Tn.u rfl (by rw [ao]; kernel_rfl) B3)) ?_;refine ak (aA rfl (cells := ws (Sc.wd (N % Sc.L))) Kr) ?_;refine af (ag rfl rfl (by rw [ao]; kernel_rfl) B2 (by rw [ao, ao]) (dj _)) rfl ?_;rintro _ _ ⟨rfl, D2, cg⟩;replace E := E.aw cg Om;refine aU ?_;refine bQ ?_;exact aa4 rfl D2 (ao _) ⟨rfl, E⟩
 intro G YU;have Zc := B2.lt;refine aU ?_;intro w2 g3 (B3 : aq _ _ _ (ws z4)) Zd ex;obtain ⟨E,B2⟩ := aS ex E B2;replace B3 := B3.congr (show _ = ws (Sc.wd (N / 2 ^ (64 * n) % Sc.L)) by rw [Nat.div_eq_of_lt hN, Nat.zero_mod]; exact iN fun j _ => by unfold z4 Sc.wd; simp);refine au 6 ?_;refine ak (cS rfl rfl (show IntKind.i64.wrap (64 * (n : Int)) = ((64 * n : Nat) : Int) from bk Om Om)) ?_;refine au 3 ?_;refine dB ?_; intro Ze YV;refine iL ?_;refine ae (YV ?_);exact YU _ _ ⟨64 * n, g3, rfl, rfl, Om, Om, Om, E, B2, B3⟩ Ls
def bt (f : Nat → Nat) : Array Value := aM .u8 (Fp.fn 32 f)
theorem PC (f : Nat → Nat) : (bt f).size = 32 := by rw [bt, bf, Fp.eE]
theorem SJ (f : Nat → Nat) (hi : i = j) (h : j < 32) : (bt f)[i]? = some (.int .u8 (f j : Nat)) := by subst hi; rw [bt, dQ _ _ _ (by rw [Fp.eE]; exact h), Fp.sQ f h]
theorem TF (f : Nat → Nat) (i x : Nat) : (bt f).setIfInBounds i (.int .u8 (x : Int)) = bt (fun j => if j = i then x else f j) := by rw [bt, gu, Fp.Dn, bt]
theorem pQ {f g : Nat → Nat} (h : ∀ j, j < 32 → f j = g j) : bt f = bt g := by unfold bt; rw [Fp.pX h]
theorem bt_le (x : Nat) : bt (fun j => x / 256 ^ j % 256) = dc (Fp.le 32 x) := by unfold bt aM dc Fp.fn Fp.le;rw [List.map_map, List.map_map];congr 1;apply List.map_congr_left;intro j _;simp only [Function.comp_apply, iv, bv, UInt8.toNat_ofNat'];congr 2;omega
theorem Xk (x k : Nat) (hk : k ≤ 64) : (x : Int) / 2 ^ (min (k : Int).toNat IntKind.u64.bits) = ((x / 2 ^ k : Nat) : Int) := by
 have e : min (k : Int).toNat IntKind.u64.bits = k := by have : IntKind.u64.bits = 64 := rfl;omega
 rw [e, show (2 : Int) ^ k = ((2 ^ k : Nat) : Int) from by rw [Int.natCast_pow]; rfl];exact (Int.natCast_ediv _ _).symm
theorem Wj (b s : Nat) (hs : s < 8) (hb : b * 2 ^ s < 256) : IntKind.u8.wrap ((b : Int) * 2 ^ (min (s : Int).toNat IntKind.u8.bits)) = ((b * 2 ^ s : Nat) : Int) := by
 have e : min (s : Int).toNat IntKind.u8.bits = s := by have : IntKind.u8.bits = 8 := rfl;omega
 rw [e, show (2 : Int) ^ s = ((2 ^ s : Nat) : Int) from by rw [Int.natCast_pow]; rfl, ← Int.natCast_mul, IntKind.wrap_u8'];omega
theorem Yq (old b s : Nat) (ho : old < 2 ^ s) (h : old + b * 2 ^ s < 256) : bits .or .u8 (old : Int) ((b * 2 ^ s : Nat) : Int) = ((old + b * 2 ^ s : Nat) : Int) := by have h2 := (bJ (p := old) (q := b * 2 ^ s) Om Om).2.1;rw [h2, Nat.or_comm, Nat.mul_comm b, ← Nat.two_pow_add_eq_or_of_lt ho, Nat.add_comm]
theorem jn (ha : Fe cs a) (w : aa9) :
  Ct 155 #[.agg cs] w fun e w' => ∃ g, e = .returned (.slice (cf g) 32 32) ∧ w.heap.size ≤ g ∧ aq w' g 5 (dc (Fp.le 32 a)) ∧ Ext w w' := by
 have hal := ha.lt;obtain ⟨f, rfl, hf, hfa⟩ := ha;refine ai 44 Tryz.func155 ?_;intro _ aa4;refine aU ?_;intro w1 g1 (B1 : aq _ _ _ (fe f)) YY ex;have E1 := ex;refine aU ?_;refine aB Tryz.func209 rfl (nh f _ hf) ?_;rintro e _ ⟨rfl, ex⟩;refine au 1 ?_;rw [hfa]; have E2 := E1.ext ex; have C1 := B1.ext ex;refine af (ag rfl rfl (by rw [aj]; kernel_rfl) C1 (by rw [aj, aj]) (bg _)) rfl ?_;rintro _ _ ⟨rfl, B3, cg⟩;have E3 := E2.aw cg YY;refine aU ?_;refine af (dC (n := 32) (z := .int .u8 0) (bytes := 1) rfl rfl Tn.u Kr rfl rfl rfl rfl Om Om) rfl ?_;rintro _ w4 ⟨g2, rfl, B4, YZ, ex⟩;have E4 := E3.ext ex; have C3 := B3.ext ex; have YU : w.heap.size ≤ g2 := Nat.le_trans E3.size YZ; replace B4 : aq w4 g2 5 (bt (fun j => a % 2 ^ (51 * 0) / 256 ^ j % 256)) := B4.congr (by rw [pQ (g := fun _ => 0) fun j _ => by rw [Nat.mul_zero, Nat.pow_zero, Nat.mod_one, Nat.zero_div]]; rfl);refine aU ?_;refine aE (fun n' L wr => ∃ i : Nat, L = [(3, .slice (cf g2) 32 32), (12, .agg (fe (Fp.gn a))), (13, .int .i64 (i : Int))] ∧ n' = 5 - i ∧ (i ≤ 5 ∧ Ext w wr ∧ aq wr g2 5 (bt (fun j => a % 2 ^ (51 * i) / 256 ^ j % 256)))) _ _ ⟨0, rfl, rfl, Om, E4, B4⟩ Ls ?_;rintro _ n' L wr ⟨i, rfl, rfl, _, F, C2⟩ Y0;refine aa1 (fun Y2 => ?_) (fun Y2 => ?_)
 ·refine au 7 ?_;refine ak (pJ rfl rfl Tn.u Tn.u rfl Kr rfl Om (dV _ rfl Om)) ?_;refine au 7 ?_;refine ak (cS rfl rfl (bk (n := 51 * i) Om Om)) ?_;refine aU ?_;refine aE (fun n' L wq => ∃ k : Nat, L = [(3, .slice (cf g2) 32 32), (5, .int .u64 ((Fp.gn a i : Nat) : Int)), (6, .int .i64 ((51 * i : Nat) : Int)), (12, .agg (fe (Fp.gn a))), (13, .int .i64 (i : Int)), (19, .int .i64 (k : Int))] ∧ n' = 51 - k ∧ (k ≤ 51 ∧ Ext w wq ∧ aq wq g2 5 (bt (fun j => a % 2 ^ (51 * i + k) / 256 ^ j % 256)))) _ _ ⟨0, rfl, rfl, Om, F, C2⟩ Ls ?_;rintro _ n' L wq ⟨k, rfl, rfl, _, G, K2⟩ Y3;refine aa1 (fun Za => ?_) (fun Za => ?_)
  ·refine aU ?_
   obtain ⟨T, hT⟩ : ∃ T, T = 51 * i + k := ⟨_, rfl⟩
   rw [← hT] at K2;have hTl : T < 255 := Om
   have hlim := Fp.GG a i;have hx := Nat.mod_lt a (Nat.pow_pos (n := T) (show 0 < 2 by omega));have hbit := Fp.Kh a i k Om;rw [← hT] at hbit
   obtain ⟨YV, YW⟩ : ∃ b, b = Fp.gn a i / 2 ^ k % 2 := ⟨_, rfl⟩
   have YX : YV ≤ 1 := Om
   have hlt := Fp.Gj hx; have Zd := Fp.EF T;have hm : YV * 2 ^ (T % 8) ≤ 1 * 2 ^ (T % 8) := Nat.mul_le_mul_right _ YX;have hdl : Fp.gn a i / 2 ^ k < 18446744073709551616 := Nat.lt_of_le_of_lt (Nat.div_le_self _ _) Om;refine aD Kr 20 rfl ?_; intro Zb ex Zc;replace G := G.ext ex; replace K2 := K2.ext ex;refine zm [0, 1, 2] ?_;refine dF 3 rfl (fun _ => aO rfl rfl (bk (n := T) Om Om)) ?_;refine dF 4 rfl (fun _ => dI rfl rfl Om (show IntKind.i64.wrap ((T : Int).tdiv 8) = ((T / 8 : Nat) : Int) from bk rfl Om)) ?_;refine zm [5] ?_;refine my 6 rfl (ah rfl Tn.u rfl (K2.get (v := .int .u8 ((a % 2 ^ T / 256 ^ (T / 8) : Nat) : Int)) (by rw [Nat.zero_add, SJ _ rfl Om, Nat.mod_eq_of_lt (a := a % 2 ^ T / 256 ^ (T / 8)) Om]))) ?_;refine zm [7, 8] ?_;refine dF 9 rfl (fun _ => cn rfl rfl Om (Xk _ k Om)) ?_;refine dF 10 rfl (fun _ => cT rfl rfl (show bits .and .u64 ((Fp.gn a i / 2 ^ k : Nat) : Int) 1 = (YV : Int) by rw [YW]; exact Ox _ hdl)) ?_;refine my 11 rfl (bc rfl Tn.u Tn.u (IntWalk.u8_in _ ⟨Om, Om⟩)) ?_;refine zm [12, 13] ?_;refine dF 14 rfl (fun _ => aO rfl rfl (bk (n := T) Om Om)) ?_;refine dF 15 rfl (fun _ => cR rfl rfl Om (show ((T : Int).tmod 8 = ((T % 8 : Nat) : Int)) from rfl)) ?_;refine dF 16 rfl (fun _ => fX rfl rfl Om (Wj YV (T % 8) Om Om)) ?_;refine dF 17 rfl (fun _ => jZ rfl rfl (Yq _ _ _ hlt Om)) ?_;refine zm [18] ?_;refine aR 19 Kr ?_; refine bE rfl (az rfl rfl rfl Kr K2 (by rw [PC]; omega)) rfl ?_;rintro _ _ ⟨rfl, B5, cg⟩;refine ⟨.inl rfl, ?_⟩;rw [Nat.zero_add, TF] at B5; have G5 := G.aw cg YU;refine au 8 ?_;refine ae ?_
   refine Y3 _ _ ⟨k + 1, rfl, rfl, Om, G5, B5.congr (pQ fun j _ => by
    rw [show 51 * i + (k + 1) = T + 1 by omega, Nat.mod_pow_succ, ← hbit, ← YW, Nat.mul_comm (2 ^ T)]
    exact Fp.Mr j hx YX)⟩ Om Ls
  refine au 10 ?_;refine ae ?_;refine Y0 _ _ ⟨i + 1, rfl, rfl, Om, G, K2.congr (pQ fun j _ => by rw [show 51 * (i + 1) = 51 * i + k by omega])⟩ Om Ls
 refine aU ?_;refine aa4 rfl ?_;obtain rfl : i = 5 := Om
 refine ⟨g2, rfl, YU, C2.congr ?_, F⟩;rw [← bt_le];refine pQ fun j _ => ?_;rw [Nat.mod_eq_of_lt (show a < 2 ^ (51 * 5) by unfold Fp.p at hal; omega)]
theorem kS {a : Fp.F} (ha : FE cs a) (w : aa9) :
  Ct 145 #[.agg cs] w fun e w' => ∃ ds, e = .returned (.agg ds) ∧ FE ds (Fp.inv a) ∧ Ext w w' := by
 have hnum : Fp.num (VP 235 127) = Fp.p - 2 := by decide +kernel
 refine aH (s := 5) 6 func145 rfl rfl rfl underlying134 rfl Kr rfl ?_;intro _ aa4;refine aU ?_;intro w1 g1 (B1 : aq _ _ _ (cs)) YW ex;have E1 := ex;refine aU ?_;intro w2 g2 (B2 : aq _ _ _ (fe (fun _ => 0))) YV ex;have E2 := E1.ext ex; replace B1 := B1.ext ex; have YU : w.heap.size ≤ g2 := Nat.le_trans E1.size YV;refine aU ?_;refine aD Kr 4 rfl ?_; intro YX ex YY;obtain ⟨B1,B2,E2⟩ := bh ex B1 B2 E2;refine zm [0] ?_;refine bC 1 rfl func204 rfl (jk 235 127 _) ?_;rintro e _ ⟨_, rfl, H3, ex⟩;obtain ⟨B2,E2⟩ := aS ex B2 E2;refine aU ?_;refine bC 2 rfl func203 rfl (jC ha _ 32 32 _ _ H3 Om) ?_;rintro e _ ⟨ds, rfl, D, ex⟩;refine aU ?_;obtain ⟨B2,E2⟩ := aS ex B2 E2;rw [hnum] at D;refine aR 3 Kr ?_; refine bE rfl (ag rfl rfl (by rw [D.size]; kernel_rfl) B2 (by rw [aj, D.size]) D.one) rfl ?_;rintro _ _ ⟨rfl, B5, cg⟩;refine ⟨.inl rfl, ?_⟩;have E5 := E2.aw cg YU;refine aU ?_;exact aa4 rfl B5 D.size ⟨_, rfl, D, E5⟩
theorem Is {a : Fp.F} (ha : FE cs a) (w : aa9) :
  Ct 207 #[.agg cs] w fun e w' => ∃ ds, e = .returned (.tuple #[.agg ds, .bool (decide (Fp.rX a))]) ∧ FE ds (if Fp.rX a then Fp.root a else 0) ∧ Ext w w' := by
 have Zr : Fp.num (VP 254 15) = Fp.e8 := by decide +kernel
 have Zs : Fp.num (VP 251 31) = Fp.nN := by decide +kernel
 have hso := Fp.zY (a := a);refine cF (s := 5) 29 func207 rfl rfl rfl underlying134 rfl Kr rfl ?_;intro _ aa4;refine au 2 ?_;refine af (mw (cs := cs) rfl rfl) rfl ?_;rintro _ _ ⟨_, rfl, B1, _, ex⟩;have E1 := ex; have ZF := B1.lt;refine af (dG (Z := fe (fun _ => 0)) Kr) rfl ?_;rintro _ _ ⟨g2, rfl, B2, ZE, ex⟩;have E2 := E1.ext ex; replace B1 := B1.ext ex; have YW : w.heap.size ≤ g2 := Nat.le_trans E1.size ZE;refine aU ?_;refine aD Kr 5 rfl ?_; intro ZG ex ZH;obtain ⟨B1,B2,E2⟩ := bh ex B1 B2 E2;refine zm [0] ?_;refine mT 1 3 Kr ?_ ?_
 ·skip;refine jf rfl func204 rfl rfl rfl (jk 254 15 _) rfl ?_;rintro e w3 ⟨g3, rfl, H3, ex⟩;obtain ⟨B1,B2,E2⟩ := bh ex B1 B2 E2;refine aU ?_;refine mT 2 3 Kr ?_ ?_
  ·skip;refine jf rfl func203 rfl rfl rfl (jC ha _ 32 32 _ _ H3 Om) rfl ?_;rintro e w4 ⟨ds, rfl, D, ex⟩;refine au 1 ?_;obtain ⟨B1,B2,E2⟩ := bh ex B1 B2 E2;rw [Zr] at D; replace D : FE ds (Fp.bU a) := D;have Zh := E2; have Zt := B2.lt;refine aR 3 Kr ?_; refine bE rfl (dG (Z := fe (fun _ => 0)) Kr) rfl ?_;rintro _ w5 ⟨g5, rfl, B5, Zu, ex⟩;refine ⟨.inr ex, ?_⟩;obtain ⟨B1,B2,E2⟩ := bh ex B1 B2 E2;have YX : w.heap.size ≤ g5 := by have := Zh.size; omega
   refine aR 4 Kr ?_; refine bE rfl (ag rfl rfl (by rw [D.size]; kernel_rfl) B5 (by rw [aj, D.size]) D.one) rfl ?_;rintro _ w6 ⟨rfl, B6, cg⟩;refine ⟨.inl rfl, ?_⟩;replace B1 := B1.aw cg Om; replace B2 := B2.aw cg Om; have E6 := E2.aw cg YX;refine aU ?_;refine aD Kr 5 rfl ?_; intro Zv ex Zw;obtain ⟨B1,B2,E6,B6⟩ := bG ex B1 B2 E6 B6;refine zm [0, 2] ?_;refine bC 1 rfl func205 rfl (bY D _) ?_;rintro e w7 ⟨d7, rfl, D7, ex⟩;obtain ⟨B1,B2,E6,B6⟩ := bG ex B1 B2 E6 B6;refine aU ?_;refine bC 3 rfl func242 rfl (eo D7 ha _) ?_;rintro e w8 ⟨rfl, ex⟩;obtain ⟨B1,B2,E6,B6⟩ := bG ex B1 B2 E6 B6;refine zm [4] ?_;refine bw rfl (fun Za => ?_) (fun Za => ?_)
   ·skip;have hq : ¬ Fp.bU a * Fp.bU a = a := by simpa using Za
    refine aD Kr 6 rfl ?_; intro Zx ex Zy;obtain ⟨B1,B2,E6,B6⟩ := bG ex B1 B2 E6 B6;refine zm [0] ?_;refine bC 1 rfl func143 rfl (dw 2 _ Om) ?_;rintro e w9 ⟨d9, rfl, D9, ex⟩;obtain ⟨B1,B2,E6,B6⟩ := bG ex B1 B2 E6 B6;refine aU ?_;refine bC 2 rfl func204 rfl (jk 251 31 _) ?_;rintro e Zz ⟨ZA, rfl, Zi, ex⟩;obtain ⟨B1,B2,E6,B6⟩ := bG ex B1 B2 E6 B6;refine aU ?_;refine bC 3 rfl func203 rfl (jC D9 _ 32 32 _ _ Zi Om) ?_;rintro e ZB ⟨d11, rfl, Zg, ex⟩;refine aU ?_;obtain ⟨B1,B2,E6,B6⟩ := bG ex B1 B2 E6 B6;rw [Zs, Fp.Ep] at Zg;refine bC 4 rfl func144 rfl (bo D Zg _) ?_;rintro e ZC ⟨d12, rfl, YV, ex⟩;obtain ⟨B1,B2,E6,B6⟩ := bG ex B1 B2 E6 B6;refine aU ?_;refine aR 5 Kr ?_; refine bE rfl (ag rfl rfl (by rw [YV.size]; kernel_rfl) B6 (by rw [D.size, YV.size]) YV.one) rfl ?_;rintro _ ZD ⟨rfl, Zj, cg⟩;refine ⟨.inl rfl, ?_⟩;replace B1 := B1.aw cg Om; replace B2 := B2.aw cg Om; replace E6 := E6.aw cg YX; replace B6 := Zj;refine aU ?_;refine aD Kr 5 rfl ?_; intro Zk ex Zl;obtain ⟨B1,B2,E6,B6⟩ := bG ex B1 B2 E6 B6;refine zm [0, 2] ?_;refine bC 1 rfl func205 rfl (bY YV _) ?_;rintro e Zm ⟨d14, rfl, Zb, ex⟩;obtain ⟨B1,B2,E6,B6⟩ := bG ex B1 B2 E6 B6;refine aU ?_;refine bC 3 rfl func242 rfl (eo Zb ha _) ?_;rintro e Zn ⟨rfl, ex⟩;obtain ⟨B1,B2,E6,B6⟩ := bG ex B1 B2 E6 B6;refine zm [4] ?_;refine bw rfl (fun YY => ?_) (fun YY => ?_)
    ·have Y3 : ¬ (Fp.bU a * Fp.im) * (Fp.bU a * Fp.im) = a := by simpa using YY
     have hns : ¬ Fp.rX a := fun hs => by rcases hso hs with h | h <;> contradiction
     refine au 2 ?_;refine ak (aA rfl (cells := fe (fun _ => 0)) Kr) ?_;refine af (ag rfl rfl Kr B2 rfl (bg _)) rfl ?_;rintro _ gT ⟨rfl, Zc, cg⟩;have Zd := E6.aw cg YW;refine aU ?_;exact aa4 rfl rfl Zc (aj _) ⟨_, by rw [decide_eq_false hns], by rw [if_neg hns]; exact FE.zero, Zd⟩
    have Y3 : (Fp.bU a * Fp.im) * (Fp.bU a * Fp.im) = a := by simpa using YY
    have hns : Fp.rX a := Fp.lP Y3;refine aU ?_;refine aB func156 rfl (jI YV _) ?_;rintro e Zo ⟨rfl, ex⟩;obtain ⟨B1,B2,E6,B6⟩ := bG ex B1 B2 E6 B6;refine aa1 (fun YZ => ?_) (fun YZ => ?_)
    ·refine aU ?_;refine aB func208 rfl (iG YV _) ?_;rintro e Zp ⟨d18, rfl, YU, ex⟩;obtain ⟨B1,B2,E6,B6⟩ := bG ex B1 B2 E6 B6;refine au 1 ?_;refine af (ag rfl rfl (by rw [YU.size]; kernel_rfl) B6 (by rw [YV.size, YU.size]) YU.one) rfl ?_;rintro _ Zq ⟨rfl, Ze, cg⟩;replace B1 := B1.aw cg Om; replace B2 := B2.aw cg Om; replace E6 := E6.aw cg YX; replace B6 := Ze;refine au 5 ?_;refine af (ag rfl rfl (by rw [YU.size]; kernel_rfl) B2 (by rw [aj, YU.size]) YU.one) rfl ?_;rintro _ Zf ⟨rfl, Y0, cg⟩;have Y2 := E6.aw cg YW;refine aU ?_;exact aa4 rfl rfl Y0 YU.size ⟨_, by rw [decide_eq_true hns], by rw [if_pos hns]; exact YU.congr (by unfold Fp.root; simp only [hq, ↓reduceIte, YZ]), Y2⟩
    refine au 5 ?_;refine af (ag rfl rfl (by rw [YV.size]; kernel_rfl) B2 (by rw [aj, YV.size]) YV.one) rfl ?_;rintro _ Zf ⟨rfl, Y0, cg⟩;have Y2 := E6.aw cg YW;refine aU ?_;exact aa4 rfl rfl Y0 YV.size ⟨_, by rw [decide_eq_true hns], by rw [if_pos hns]; exact YV.congr (by unfold Fp.root; simp only [hq, ↓reduceIte, YZ]), Y2⟩
   have hq : Fp.bU a * Fp.bU a = a := by simpa using Za
   refine aU ?_;refine aD Kr 5 rfl ?_; intro Zk ex Zl;obtain ⟨B1,B2,E6,B6⟩ := bG ex B1 B2 E6 B6;refine zm [0, 2] ?_;refine bC 1 rfl func205 rfl (bY D _) ?_;rintro e Zm ⟨d14, rfl, Zb, ex⟩;obtain ⟨B1,B2,E6,B6⟩ := bG ex B1 B2 E6 B6;refine aU ?_;refine bC 3 rfl func242 rfl (eo Zb ha _) ?_;rintro e Zn ⟨rfl, ex⟩;obtain ⟨B1,B2,E6,B6⟩ := bG ex B1 B2 E6 B6;refine zm [4] ?_;refine bw rfl (fun YY => ?_) (fun YY => ?_)
   ·have Y3 : ¬ (Fp.bU a) * (Fp.bU a) = a := by simpa using YY
    have hns : ¬ Fp.rX a := fun hs => by rcases hso hs with h | h <;> contradiction
    refine au 2 ?_;refine ak (aA rfl (cells := fe (fun _ => 0)) Kr) ?_;refine af (ag rfl rfl Kr B2 rfl (bg _)) rfl ?_;rintro _ gT ⟨rfl, Zc, cg⟩;have Zd := E6.aw cg YW;refine aU ?_;exact aa4 rfl rfl Zc (aj _) ⟨_, by rw [decide_eq_false hns], by rw [if_neg hns]; exact FE.zero, Zd⟩
   have Y3 : (Fp.bU a) * (Fp.bU a) = a := by simpa using YY
   have hns : Fp.rX a := Fp.lP Y3;refine aU ?_;refine aB func156 rfl (jI D _) ?_;rintro e Zo ⟨rfl, ex⟩;obtain ⟨B1,B2,E6,B6⟩ := bG ex B1 B2 E6 B6;refine aa1 (fun YZ => ?_) (fun YZ => ?_)
   ·refine aU ?_;refine aB func208 rfl (iG D _) ?_;rintro e Zp ⟨d18, rfl, YU, ex⟩;obtain ⟨B1,B2,E6,B6⟩ := bG ex B1 B2 E6 B6;refine au 1 ?_;refine af (ag rfl rfl (by rw [YU.size]; kernel_rfl) B6 (by rw [D.size, YU.size]) YU.one) rfl ?_;rintro _ Zq ⟨rfl, Ze, cg⟩;replace B1 := B1.aw cg Om; replace B2 := B2.aw cg Om; replace E6 := E6.aw cg YX; replace B6 := Ze;refine au 5 ?_;refine af (ag rfl rfl (by rw [YU.size]; kernel_rfl) B2 (by rw [aj, YU.size]) YU.one) rfl ?_;rintro _ Zf ⟨rfl, Y0, cg⟩;have Y2 := E6.aw cg YW;refine aU ?_;exact aa4 rfl rfl Y0 YU.size ⟨_, by rw [decide_eq_true hns], by rw [if_pos hns]; exact YU.congr (by unfold Fp.root; simp only [hq, ↓reduceIte, YZ]), Y2⟩
   refine au 5 ?_;refine af (ag rfl rfl (by rw [D.size]; kernel_rfl) B2 (by rw [aj, D.size]) D.one) rfl ?_;rintro _ Zf ⟨rfl, Y0, cg⟩;have Y2 := E6.aw cg YW;refine aU ?_;exact aa4 rfl rfl Y0 D.size ⟨_, by rw [decide_eq_true hns], by rw [if_pos hns]; exact D.congr (by unfold Fp.root; simp only [hq, ↓reduceIte, YZ]), Y2⟩
  skip;have Zh := E2; have Zt := B2.lt;refine bE rfl (dG (Z := fe (fun _ => 0)) Kr) rfl ?_;rintro _ w5 ⟨g5, rfl, B5, Zu, ex⟩;refine ⟨.inr ex, ?_⟩;obtain ⟨B1,B2,E2,H3⟩ := bG ex B1 B2 E2 H3;have YX : w.heap.size ≤ g5 := by have := Zh.size; omega
  refine bC 2 rfl func203 rfl (jC ha _ 32 32 _ _ H3 Om) ?_;rintro e w4 ⟨ds, rfl, D, ex⟩;refine au 1 ?_;obtain ⟨B1,B2,E2,B5⟩ := bG ex B1 B2 E2 B5;rw [Zr] at D; replace D : FE ds (Fp.bU a) := D;refine aR 4 Kr ?_; refine bE rfl (ag rfl rfl (by rw [D.size]; kernel_rfl) B5 (by rw [aj, D.size]) D.one) rfl ?_;rintro _ w6 ⟨rfl, B6, cg⟩;refine ⟨.inl rfl, ?_⟩;replace B1 := B1.aw cg Om; replace B2 := B2.aw cg Om; have E6 := E2.aw cg YX;refine aU ?_;refine aD Kr 5 rfl ?_; intro Zv ex Zw;obtain ⟨B1,B2,E6,B6⟩ := bG ex B1 B2 E6 B6;refine zm [0, 2] ?_;refine bC 1 rfl func205 rfl (bY D _) ?_;rintro e w7 ⟨d7, rfl, D7, ex⟩;obtain ⟨B1,B2,E6,B6⟩ := bG ex B1 B2 E6 B6;refine aU ?_;refine bC 3 rfl func242 rfl (eo D7 ha _) ?_;rintro e w8 ⟨rfl, ex⟩;obtain ⟨B1,B2,E6,B6⟩ := bG ex B1 B2 E6 B6;refine zm [4] ?_;refine bw rfl (fun Za => ?_) (fun Za => ?_)
  ·skip;have hq : ¬ Fp.bU a * Fp.bU a = a := by simpa using Za
   refine aD Kr 6 rfl ?_; intro Zx ex Zy;obtain ⟨B1,B2,E6,B6⟩ := bG ex B1 B2 E6 B6;refine zm [0] ?_;refine bC 1 rfl func143 rfl (dw 2 _ Om) ?_;rintro e w9 ⟨d9, rfl, D9, ex⟩;obtain ⟨B1,B2,E6,B6⟩ := bG ex B1 B2 E6 B6;refine aU ?_;refine bC 2 rfl func204 rfl (jk 251 31 _) ?_;rintro e Zz ⟨ZA, rfl, Zi, ex⟩;obtain ⟨B1,B2,E6,B6⟩ := bG ex B1 B2 E6 B6;refine aU ?_;refine bC 3 rfl func203 rfl (jC D9 _ 32 32 _ _ Zi Om) ?_;rintro e ZB ⟨d11, rfl, Zg, ex⟩;refine aU ?_;obtain ⟨B1,B2,E6,B6⟩ := bG ex B1 B2 E6 B6;rw [Zs, Fp.Ep] at Zg;refine bC 4 rfl func144 rfl (bo D Zg _) ?_;rintro e ZC ⟨d12, rfl, YV, ex⟩;obtain ⟨B1,B2,E6,B6⟩ := bG ex B1 B2 E6 B6;refine aU ?_;refine aR 5 Kr ?_; refine bE rfl (ag rfl rfl (by rw [YV.size]; kernel_rfl) B6 (by rw [D.size, YV.size]) YV.one) rfl ?_;rintro _ ZD ⟨rfl, Zj, cg⟩;refine ⟨.inl rfl, ?_⟩;replace B1 := B1.aw cg Om; replace B2 := B2.aw cg Om; replace E6 := E6.aw cg YX; replace B6 := Zj;refine aU ?_;refine aD Kr 5 rfl ?_; intro Zk ex Zl;obtain ⟨B1,B2,E6,B6⟩ := bG ex B1 B2 E6 B6;refine zm [0, 2] ?_;refine bC 1 rfl func205 rfl (bY YV _) ?_;rintro e Zm ⟨d14, rfl, Zb, ex⟩;obtain ⟨B1,B2,E6,B6⟩ := bG ex B1 B2 E6 B6;refine aU ?_;refine bC 3 rfl func242 rfl (eo Zb ha _) ?_;rintro e Zn ⟨rfl, ex⟩;obtain ⟨B1,B2,E6,B6⟩ := bG ex B1 B2 E6 B6;refine zm [4] ?_;refine bw rfl (fun YY => ?_) (fun YY => ?_)
   ·have Y3 : ¬ (Fp.bU a * Fp.im) * (Fp.bU a * Fp.im) = a := by simpa using YY
    have hns : ¬ Fp.rX a := fun hs => by rcases hso hs with h | h <;> contradiction
    refine au 2 ?_;refine ak (aA rfl (cells := fe (fun _ => 0)) Kr) ?_;refine af (ag rfl rfl Kr B2 rfl (bg _)) rfl ?_;rintro _ gT ⟨rfl, Zc, cg⟩;have Zd := E6.aw cg YW;refine aU ?_;exact aa4 rfl rfl Zc (aj _) ⟨_, by rw [decide_eq_false hns], by rw [if_neg hns]; exact FE.zero, Zd⟩
   have Y3 : (Fp.bU a * Fp.im) * (Fp.bU a * Fp.im) = a := by simpa using YY
   have hns : Fp.rX a := Fp.lP Y3;refine aU ?_;refine aB func156 rfl (jI YV _) ?_;rintro e Zo ⟨rfl, ex⟩;obtain ⟨B1,B2,E6,B6⟩ := bG ex B1 B2 E6 B6;refine aa1 (fun YZ => ?_) (fun YZ => ?_)
   ·refine aU ?_;refine aB func208 rfl (iG YV _) ?_;rintro e Zp ⟨d18, rfl, YU, ex⟩;obtain ⟨B1,B2,E6,B6⟩ := bG ex B1 B2 E6 B6;refine au 1 ?_;refine af (ag rfl rfl (by rw [YU.size]; kernel_rfl) B6 (by rw [YV.size, YU.size]) YU.one) rfl ?_;rintro _ Zq ⟨rfl, Ze, cg⟩;replace B1 := B1.aw cg Om; replace B2 := B2.aw cg Om; replace E6 := E6.aw cg YX; replace B6 := Ze;refine au 5 ?_;refine af (ag rfl rfl (by rw [YU.size]; kernel_rfl) B2 (by rw [aj, YU.size]) YU.one) rfl ?_;rintro _ Zf ⟨rfl, Y0, cg⟩;have Y2 := E6.aw cg YW;refine aU ?_;exact aa4 rfl rfl Y0 YU.size ⟨_, by rw [decide_eq_true hns], by rw [if_pos hns]; exact YU.congr (by unfold Fp.root; simp only [hq, ↓reduceIte, YZ]), Y2⟩
   refine au 5 ?_;refine af (ag rfl rfl (by rw [YV.size]; kernel_rfl) B2 (by rw [aj, YV.size]) YV.one) rfl ?_;rintro _ Zf ⟨rfl, Y0, cg⟩;have Y2 := E6.aw cg YW;refine aU ?_;exact aa4 rfl rfl Y0 YV.size ⟨_, by rw [decide_eq_true hns], by rw [if_pos hns]; exact YV.congr (by unfold Fp.root; simp only [hq, ↓reduceIte, YZ]), Y2⟩
  have hq : Fp.bU a * Fp.bU a = a := by simpa using Za
  refine aU ?_;refine aD Kr 5 rfl ?_; intro Zk ex Zl;obtain ⟨B1,B2,E6,B6⟩ := bG ex B1 B2 E6 B6;refine zm [0, 2] ?_;refine bC 1 rfl func205 rfl (bY D _) ?_;rintro e Zm ⟨d14, rfl, Zb, ex⟩;obtain ⟨B1,B2,E6,B6⟩ := bG ex B1 B2 E6 B6;refine aU ?_;refine bC 3 rfl func242 rfl (eo Zb ha _) ?_;rintro e Zn ⟨rfl, ex⟩;obtain ⟨B1,B2,E6,B6⟩ := bG ex B1 B2 E6 B6;refine zm [4] ?_;refine bw rfl (fun YY => ?_) (fun YY => ?_)
  ·have Y3 : ¬ (Fp.bU a) * (Fp.bU a) = a := by simpa using YY
   have hns : ¬ Fp.rX a := fun hs => by rcases hso hs with h | h <;> contradiction
   refine au 2 ?_;refine ak (aA rfl (cells := fe (fun _ => 0)) Kr) ?_;refine af (ag rfl rfl Kr B2 rfl (bg _)) rfl ?_;rintro _ gT ⟨rfl, Zc, cg⟩;have Zd := E6.aw cg YW;refine aU ?_;exact aa4 rfl rfl Zc (aj _) ⟨_, by rw [decide_eq_false hns], by rw [if_neg hns]; exact FE.zero, Zd⟩
  have Y3 : (Fp.bU a) * (Fp.bU a) = a := by simpa using YY
  have hns : Fp.rX a := Fp.lP Y3;refine aU ?_;refine aB func156 rfl (jI D _) ?_;rintro e Zo ⟨rfl, ex⟩;obtain ⟨B1,B2,E6,B6⟩ := bG ex B1 B2 E6 B6;refine aa1 (fun YZ => ?_) (fun YZ => ?_)
  ·refine aU ?_;refine aB func208 rfl (iG D _) ?_;rintro e Zp ⟨d18, rfl, YU, ex⟩;obtain ⟨B1,B2,E6,B6⟩ := bG ex B1 B2 E6 B6;refine au 1 ?_;refine af (ag rfl rfl (by rw [YU.size]; kernel_rfl) B6 (by rw [D.size, YU.size]) YU.one) rfl ?_;rintro _ Zq ⟨rfl, Ze, cg⟩;replace B1 := B1.aw cg Om; replace B2 := B2.aw cg Om; replace E6 := E6.aw cg YX; replace B6 := Ze;refine au 5 ?_;refine af (ag rfl rfl (by rw [YU.size]; kernel_rfl) B2 (by rw [aj, YU.size]) YU.one) rfl ?_;rintro _ Zf ⟨rfl, Y0, cg⟩;have Y2 := E6.aw cg YW;refine aU ?_;exact aa4 rfl rfl Y0 YU.size ⟨_, by rw [decide_eq_true hns], by rw [if_pos hns]; exact YU.congr (by unfold Fp.root; simp only [hq, ↓reduceIte, YZ]), Y2⟩
  refine au 5 ?_;refine af (ag rfl rfl (by rw [D.size]; kernel_rfl) B2 (by rw [aj, D.size]) D.one) rfl ?_;rintro _ Zf ⟨rfl, Y0, cg⟩;have Y2 := E6.aw cg YW;refine aU ?_;exact aa4 rfl rfl Y0 D.size ⟨_, by rw [decide_eq_true hns], by rw [if_pos hns]; exact D.congr (by unfold Fp.root; simp only [hq, ↓reduceIte, YZ]), Y2⟩
 skip;have Zh := E2; have Zt := B2.lt;refine bE rfl (dG (Z := fe (fun _ => 0)) Kr) rfl ?_;rintro _ w5 ⟨g5, rfl, B5, Zu, ex⟩;refine ⟨.inr ex, ?_⟩;obtain ⟨B1,B2,E2⟩ := bh ex B1 B2 E2;have YX : w.heap.size ≤ g5 := by have := Zh.size; omega
 refine bC 1 rfl func204 rfl (jk 254 15 _) ?_;rintro e w3 ⟨g3, rfl, H3, ex⟩;obtain ⟨B1,B2,E2,B5⟩ := bG ex B1 B2 E2 B5;refine aU ?_;refine bC 2 rfl func203 rfl (jC ha _ 32 32 _ _ H3 Om) ?_;rintro e w4 ⟨ds, rfl, D, ex⟩;refine au 1 ?_;obtain ⟨B1,B2,E2,B5⟩ := bG ex B1 B2 E2 B5;rw [Zr] at D; replace D : FE ds (Fp.bU a) := D;refine aR 4 Kr ?_; refine bE rfl (ag rfl rfl (by rw [D.size]; kernel_rfl) B5 (by rw [aj, D.size]) D.one) rfl ?_;rintro _ w6 ⟨rfl, B6, cg⟩;refine ⟨.inl rfl, ?_⟩;replace B1 := B1.aw cg Om; replace B2 := B2.aw cg Om; have E6 := E2.aw cg YX;refine aU ?_;refine aD Kr 5 rfl ?_; intro Zv ex Zw;obtain ⟨B1,B2,E6,B6⟩ := bG ex B1 B2 E6 B6;refine zm [0, 2] ?_;refine bC 1 rfl func205 rfl (bY D _) ?_;rintro e w7 ⟨d7, rfl, D7, ex⟩;obtain ⟨B1,B2,E6,B6⟩ := bG ex B1 B2 E6 B6;refine aU ?_;refine bC 3 rfl func242 rfl (eo D7 ha _) ?_;rintro e w8 ⟨rfl, ex⟩;obtain ⟨B1,B2,E6,B6⟩ := bG ex B1 B2 E6 B6;refine zm [4] ?_;refine bw rfl (fun Za => ?_) (fun Za => ?_)
 ·skip;have hq : ¬ Fp.bU a * Fp.bU a = a := by simpa using Za
  refine aD Kr 6 rfl ?_; intro Zx ex Zy;obtain ⟨B1,B2,E6,B6⟩ := bG ex B1 B2 E6 B6;refine zm [0] ?_;refine bC 1 rfl func143 rfl (dw 2 _ Om) ?_;rintro e w9 ⟨d9, rfl, D9, ex⟩;obtain ⟨B1,B2,E6,B6⟩ := bG ex B1 B2 E6 B6;refine aU ?_;refine bC 2 rfl func204 rfl (jk 251 31 _) ?_;rintro e Zz ⟨ZA, rfl, Zi, ex⟩;obtain ⟨B1,B2,E6,B6⟩ := bG ex B1 B2 E6 B6;refine aU ?_;refine bC 3 rfl func203 rfl (jC D9 _ 32 32 _ _ Zi Om) ?_;rintro e ZB ⟨d11, rfl, Zg, ex⟩;refine aU ?_;obtain ⟨B1,B2,E6,B6⟩ := bG ex B1 B2 E6 B6;rw [Zs, Fp.Ep] at Zg;refine bC 4 rfl func144 rfl (bo D Zg _) ?_;rintro e ZC ⟨d12, rfl, YV, ex⟩;obtain ⟨B1,B2,E6,B6⟩ := bG ex B1 B2 E6 B6;refine aU ?_;refine aR 5 Kr ?_; refine bE rfl (ag rfl rfl (by rw [YV.size]; kernel_rfl) B6 (by rw [D.size, YV.size]) YV.one) rfl ?_;rintro _ ZD ⟨rfl, Zj, cg⟩;refine ⟨.inl rfl, ?_⟩;replace B1 := B1.aw cg Om; replace B2 := B2.aw cg Om; replace E6 := E6.aw cg YX; replace B6 := Zj;refine aU ?_;refine aD Kr 5 rfl ?_; intro Zk ex Zl;obtain ⟨B1,B2,E6,B6⟩ := bG ex B1 B2 E6 B6;refine zm [0, 2] ?_;refine bC 1 rfl func205 rfl (bY YV _) ?_;rintro e Zm ⟨d14, rfl, Zb, ex⟩;obtain ⟨B1,B2,E6,B6⟩ := bG ex B1 B2 E6 B6;refine aU ?_;refine bC 3 rfl func242 rfl (eo Zb ha _) ?_;rintro e Zn ⟨rfl, ex⟩;obtain ⟨B1,B2,E6,B6⟩ := bG ex B1 B2 E6 B6;refine zm [4] ?_;refine bw rfl (fun YY => ?_) (fun YY => ?_)
  ·have Y3 : ¬ (Fp.bU a * Fp.im) * (Fp.bU a * Fp.im) = a := by simpa using YY
   have hns : ¬ Fp.rX a := fun hs => by rcases hso hs with h | h <;> contradiction
   refine au 2 ?_;refine ak (aA rfl (cells := fe (fun _ => 0)) Kr) ?_;refine af (ag rfl rfl Kr B2 rfl (bg _)) rfl ?_;rintro _ gT ⟨rfl, Zc, cg⟩;have Zd := E6.aw cg YW;refine aU ?_;exact aa4 rfl rfl Zc (aj _) ⟨_, by rw [decide_eq_false hns], by rw [if_neg hns]; exact FE.zero, Zd⟩
  have Y3 : (Fp.bU a * Fp.im) * (Fp.bU a * Fp.im) = a := by simpa using YY
  have hns : Fp.rX a := Fp.lP Y3;refine aU ?_;refine aB func156 rfl (jI YV _) ?_;rintro e Zo ⟨rfl, ex⟩;obtain ⟨B1,B2,E6,B6⟩ := bG ex B1 B2 E6 B6;refine aa1 (fun YZ => ?_) (fun YZ => ?_)
  ·refine aU ?_;refine aB func208 rfl (iG YV _) ?_;rintro e Zp ⟨d18, rfl, YU, ex⟩;obtain ⟨B1,B2,E6,B6⟩ := bG ex B1 B2 E6 B6;refine au 1 ?_;refine af (ag rfl rfl (by rw [YU.size]; kernel_rfl) B6 (by rw [YV.size, YU.size]) YU.one) rfl ?_;rintro _ Zq ⟨rfl, Ze, cg⟩;replace B1 := B1.aw cg Om; replace B2 := B2.aw cg Om; replace E6 := E6.aw cg YX; replace B6 := Ze;refine au 5 ?_;refine af (ag rfl rfl (by rw [YU.size]; kernel_rfl) B2 (by rw [aj, YU.size]) YU.one) rfl ?_;rintro _ Zf ⟨rfl, Y0, cg⟩;have Y2 := E6.aw cg YW;refine aU ?_;exact aa4 rfl rfl Y0 YU.size ⟨_, by rw [decide_eq_true hns], by rw [if_pos hns]; exact YU.congr (by unfold Fp.root; simp only [hq, ↓reduceIte, YZ]), Y2⟩
  refine au 5 ?_;refine af (ag rfl rfl (by rw [YV.size]; kernel_rfl) B2 (by rw [aj, YV.size]) YV.one) rfl ?_;rintro _ Zf ⟨rfl, Y0, cg⟩;have Y2 := E6.aw cg YW;refine aU ?_;exact aa4 rfl rfl Y0 YV.size ⟨_, by rw [decide_eq_true hns], by rw [if_pos hns]; exact YV.congr (by unfold Fp.root; simp only [hq, ↓reduceIte, YZ]), Y2⟩
 have hq : Fp.bU a * Fp.bU a = a := by simpa using Za
 refine aU ?_;refine aD Kr 5 rfl ?_; intro Zk ex Zl;obtain ⟨B1,B2,E6,B6⟩ := bG ex B1 B2 E6 B6;refine zm [0, 2] ?_;refine bC 1 rfl func205 rfl (bY D _) ?_;rintro e Zm ⟨d14, rfl, Zb, ex⟩;obtain ⟨B2,E6,B6⟩ := bh ex B2 E6 B6;refine aU ?_;refine bC 3 rfl func242 rfl (eo Zb ha _) ?_;rintro e Zn ⟨rfl, ex⟩;obtain ⟨B2,E6,B6⟩ := bh ex B2 E6 B6;refine zm [4] ?_;refine bw rfl (fun YY => ?_) (fun YY => ?_)
 ·have Y3 : ¬ (Fp.bU a) * (Fp.bU a) = a := by simpa using YY
  have hns : ¬ Fp.rX a := fun hs => by rcases hso hs with h | h <;> contradiction
  refine au 2 ?_;refine ak (aA rfl (cells := fe (fun _ => 0)) Kr) ?_;refine af (ag rfl rfl Kr B2 rfl (bg _)) rfl ?_;rintro _ gT ⟨rfl, Zc, cg⟩;have Zd := E6.aw cg YW;refine aU ?_;exact aa4 rfl rfl Zc (aj _) ⟨_, by rw [decide_eq_false hns], by rw [if_neg hns]; exact FE.zero, Zd⟩
 have Y3 : (Fp.bU a) * (Fp.bU a) = a := by simpa using YY
 have hns : Fp.rX a := Fp.lP Y3;refine aU ?_;refine aB func156 rfl (jI D _) ?_;rintro e Zo ⟨rfl, ex⟩;obtain ⟨B2,E6,B6⟩ := bh ex B2 E6 B6;refine aa1 (fun YZ => ?_) (fun YZ => ?_)
 ·refine aU ?_;refine aB func208 rfl (iG D _) ?_;rintro e Zp ⟨d18, rfl, YU, ex⟩;obtain ⟨B2,E6,B6⟩ := bh ex B2 E6 B6;refine au 1 ?_;refine af (ag rfl rfl (by rw [YU.size]; kernel_rfl) B6 (by rw [D.size, YU.size]) YU.one) rfl ?_;rintro _ Zq ⟨rfl, Ze, cg⟩;replace B2 := B2.aw cg Om; replace E6 := E6.aw cg YX; replace B6 := Ze;refine au 5 ?_;refine af (ag rfl rfl (by rw [YU.size]; kernel_rfl) B2 (by rw [aj, YU.size]) YU.one) rfl ?_;rintro _ Zf ⟨rfl, Y0, cg⟩;have Y2 := E6.aw cg YW;refine aU ?_;exact aa4 rfl rfl Y0 YU.size ⟨_, by rw [decide_eq_true hns], by rw [if_pos hns]; exact YU.congr (by unfold Fp.root; simp only [hq, ↓reduceIte, YZ]), Y2⟩
 refine au 5 ?_;refine af (ag rfl rfl (by rw [D.size]; kernel_rfl) B2 (by rw [aj, D.size]) D.one) rfl ?_;rintro _ Zf ⟨rfl, Y0, cg⟩;have Y2 := E6.aw cg YW;refine aU ?_;exact aa4 rfl rfl Y0 D.size ⟨_, by rw [decide_eq_true hns], by rw [if_pos hns]; exact D.congr (by unfold Fp.root; simp only [hq, ↓reduceIte, YZ]), Y2⟩
theorem EU (A : Oa) (n c : Nat) (xs : Lb) (w : aa9) (HA : Bs w A n xs) :
  Ct 240 #[.slice A n c] w fun e w' => ∃ cs, e = .returned (.agg cs) ∧ FE cs (Fp.of (Fp.RR xs)) ∧ Ext w w' :=
 (Qa A n c xs w HA).mono fun _ _ ⟨cs, h1, h2, h3⟩ => ⟨cs, h1, FE.of h2, h3⟩
end Go.Proofs.YtgfafidlkldeaaaGreat
