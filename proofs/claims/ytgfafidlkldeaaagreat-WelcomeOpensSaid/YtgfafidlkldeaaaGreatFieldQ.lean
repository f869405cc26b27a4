/- The field's Inv and Root, the reference's Pow and Inv: what each hands back. -/
import Derived.Test.YtgfafidlkldeaaaGreatFieldB
import Derived.Test.YtgfafidlkldeaaaGreatBigC
import Derived.Test.YtgfafidlkldeaaaGreatVc7
import Derived.Shelf.Spec.BitsCarry
import Derived.Test.YtgfafidlkldeaaaGreatWireR
set_option linter.unusedVariables false
set_option linter.unusedSimpArgs false
set_option maxHeartbeats 4000000
set_option maxRecDepth 4000
namespace Go.Proofs.YtgfafidlkldeaaaGreat
variable {cs ds : Array Value} {P a g i j m n o x : Nat} {t ty : TypeId} {b : UInt8} {w w' : World}
section
open Go.RowKit Tryz
attribute [local irreducible] Y Ef WL WC WK WQ WM cv
theorem Mp (x k c : Nat) (h : (2 : Int) ^ (min (k : Int).toNat IntKind.u64.bits) = (c : Int)) : (x : Int) / 2 ^ (min (k : Int).toNat IntKind.u64.bits) = ((x / c : Nat) : Int) := by rw [h]; exact (Int.natCast_ediv _ _).symm
theorem Uf (x : Nat) (hx : x * 256 < 18446744073709551616) : IntKind.u64.wrap ((x : Int) * 2 ^ (min (8 : Int).toNat IntKind.u64.bits)) = ((x * 256 : Nat) : Int) := by rw [show (2 : Int) ^ (min (8 : Int).toNat IntKind.u64.bits) = 256 from rfl];exact aH Om hx
theorem Vp (a b : Nat) (hb : b < 256) (ha : a * 256 < 18446744073709551616) : bits .or .u64 ((a * 256 : Nat) : Int) (b : Int) = ((a * 256 + b : Nat) : Int) := by have h := (cD (p := a * 256) (q := b) ha Om).2.1;rw [h, show a * 256 = 2 ^ 8 * a by omega, Nat.two_pow_add_eq_or_of_lt (show b < 2 ^ 8 from hb)]
theorem Nv (g o : Nat) (t : TypeId) (X : Lb) (w : World) (B : ao w g t (dd X)) (hX : X.length = 32) (ho : o + 8 ≤ 32) :
  Ct 260 #[.int .i64 (o : Int), .pointer (some ⟨g, 0, none⟩)] w fun e w' => e = .returned (.int .u64 ((Fp.word X o : Nat) : Int)) ∧ Ext w w' := by
 refine ai 20 func260 rfl rfl rfl rfl ?_;intro _ hret;refine aU ?_;refine aD (fun n' L wr => ∃ j x : Nat, L = [(0, .int .i64 (o : Int)), (1, .pointer (some ⟨g, 0, none⟩)), (4, .int .u64 (x : Int)), (5, .int .i64 ((j : Int) - 1))] ∧ n' = 1 + j ∧ (j ≤ 8 ∧ wr = w ∧ x = Fp.num ((X.drop (o + j)).take (8 - j)))) _ _ ⟨8, 0, rfl, rfl, by omega, rfl, by simp [Fp.num]⟩ Ls ?_;rintro _ n' L wr ⟨j, x, rfl, rfl, _, rfl, hx⟩ Vq;refine aU ?_;refine ak rfl (fun Vr => ?_) (fun Vr => ?_)
 ·refine au 4 ?_
  obtain ⟨j, rfl⟩ : ∃ i, j = i + 1 := ⟨j - 1, by omega⟩
  rw [show (((j + 1 : Nat) : Int) - 1) = (j : Int) by omega];have hst := Fp.Fj X o j Om Om;have hlt := Fp.MY X o (j + 1) Om;have hp : 256 ^ (8 - (j + 1)) ≤ 256 ^ 7 := Nat.pow_le_pow_right Om Om;rw [← hx] at hst hlt
  obtain ⟨b, hb⟩ : ∃ b, b = (X.getD (o + j) 0).toNat := ⟨_, rfl⟩
  have hbl : b < 256 := by rw [hb]; exact UInt8.toNat_lt _
  rw [← hb] at hst;have Vs : x < 72057594037927936 := by omega
  refine au 2 ?_;refine al (gd rfl rfl Om (Uf x Om)) ?_;refine au 3 ?_;refine al (bS rfl rfl Tn.u Kr (j := o + j) Om Om) ?_;refine al (af rfl Tn.u rfl (B.get (v := .int .u8 (b : Int)) (by rw [Nat.zero_add, kj Om, hb]))) ?_;refine au 1 ?_;refine al (jN rfl rfl (Vp x b hbl Om)) ?_;refine au 9 ?_;refine ae ?_;refine Vq _ _ ⟨j, x * 256 + b, rfl, rfl, by omega, rfl, by rw [hst]; omega⟩ Om Ls
 refine aU ?_;refine hret rfl ?_;obtain rfl : j = 0 := by omega
 exact ⟨by rw [hx]; rfl, Ext.refl _⟩
theorem og {L : List (Nat × Value)} {z y : Operand} {ats : Array TypeId} {X : Lb} (hz : ev L z = some (.func (.func 260) #[] #[.pointer (some ⟨g, 0, none⟩)])) (hy : ev L y = some (.int .i64 (o : Int))) (B : ao w g t (dd X)) (hX : X.length = 32) (ho : o + 8 ≤ 32) :
  Ef Tryz.prog L w (.call { callee := .value z, args := #[y], argTypes := ats }) ty fun v w' => v = .int .u64 ((Fp.word X o : Nat) : Int) ∧ Ext w w' :=
 lL (us := [.pointer (some ⟨g, 0, none⟩)]) (xs := [y]) (vs := [.int .i64 (o : Int)]) hz func260 rfl rfl (by simp [qe, hy]) (Nv g o t X w B hX ho) (fun _ _ h => ⟨_, h.1, rfl, h.2⟩)
theorem LK (b : Lb) (h : ao w g t ((dd (iC 32)).toList.take 0 ++ (b.take 32).map bv ++ (dd (iC 32)).toList.drop (0 + ((b.take 32).map bv).length)).toArray) : ao w g t (dd (Fp.pad b)) := by refine h.congr ?_;unfold dd Fp.pad;rw [List.map_append];congr 1;rw [List.take_zero, List.nil_append, Nat.zero_add, List.length_map, List.toList_toArray];congr 1;unfold iC;rw [List.map_replicate, List.drop_replicate, List.map_replicate]
theorem Md (A : Oa) (n c : Nat) (b : Lb) (w : World) (HA : Bs w A n b) :
  Ct 240 #[.slice A n c] w fun e w' => ∃ es, e = .returned (.agg es) ∧ Fe es (Fp.RL b) ∧ Ext w w' := by
 have hX := Fp.cP b
 have HT : Bs w A (min n 32) (b.take 32) := by
  have h := HA.take (k := min n 32) Om;have hn := HA.1;rcases Nat.le_total n 32 with h1 | h1
  ·rw [Nat.min_eq_left h1, List.take_of_length_le Om] at h;rw [Nat.min_eq_left h1, List.take_of_length_le Om]; exact h
  rw [Nat.min_eq_right h1] at h ⊢; exact h
 refine aK (s := 5) 30 func240 rfl rfl rfl underlying134 rfl Kr rfl ?_;intro _ hret;refine aU ?_;intro w1 g1 (B1 : ao _ _ _ (fe (fun _ => 0))) Vq ex;have E := ex; have Vs := B1.lt;refine aU ?_;intro w2 g2 (B2 : ao _ _ _ (dd (iC 32))) Vr ex;replace E := E.ext ex; replace B1 := B1.ext ex;refine au 4 ?_;refine al (yG (s := 1) rfl Tn.u Kr) ?_;refine aU ?_;refine ag (gY rfl rfl Tn.u Kr B2 (HT.wk E).2 (by rw [List.length_map, HT.1]) (by rw [List.length_map, HT.1, ba]; simp [iC]; omega) aJ) rfl ?_;rintro _ _ ⟨rfl, B3, cg⟩;replace B3 := LK b B3; replace E := E.aA cg (Nat.le_trans (by have := Vq; omega) Vr); replace B1 := B1.aA cg Om;refine au 4 ?_;refine al (kr rfl) ?_;refine aU ?_;refine ag (og (o := 0) rfl rfl B3 hX Om) rfl ?_;rintro _ _ ⟨rfl, ex⟩;obtain ⟨E,B1,B3⟩ := bF ex E B1 B3;refine al (cV rfl rfl (lT _ (Fp.word_lt _ 0 Om))) ?_;refine aU ?_;refine ag (og (o := 6) rfl rfl B3 hX Om) rfl ?_;rintro _ _ ⟨rfl, ex⟩;obtain ⟨E,B1,B3⟩ := bF ex E B1 B3;refine al (cB rfl rfl Om (Mp _ 3 8 rfl)) ?_;refine al (cV rfl rfl (lT _ (by have := Fp.word_lt (Fp.pad b) 6 Om; omega))) ?_;refine aU ?_;refine ag (og (o := 12) rfl rfl B3 hX Om) rfl ?_;rintro _ _ ⟨rfl, ex⟩;obtain ⟨E,B1,B3⟩ := bF ex E B1 B3;refine al (cB rfl rfl Om (Mp _ 6 64 rfl)) ?_;refine al (cV rfl rfl (lT _ (by have := Fp.word_lt (Fp.pad b) 12 Om; omega))) ?_;refine aU ?_;refine ag (og (o := 19) rfl rfl B3 hX Om) rfl ?_;rintro _ _ ⟨rfl, ex⟩;obtain ⟨E,B1,B3⟩ := bF ex E B1 B3;refine al (cB rfl rfl Om (Mp _ 1 2 rfl)) ?_;refine al (cV rfl rfl (lT _ (by have := Fp.word_lt (Fp.pad b) 19 Om; omega))) ?_;refine aU ?_;refine ag (og (o := 24) rfl rfl B3 hX Om) rfl ?_;rintro _ _ ⟨rfl, ex⟩;obtain ⟨E,B1⟩ := aZ ex E B1;refine al (cB rfl rfl Om (Mp _ 12 4096 rfl)) ?_;refine al (cV rfl rfl (lT _ (by have := Fp.word_lt (Fp.pad b) 24 Om; omega))) ?_;refine al (ar rfl (cells := fe (Fp.BJ (Fp.pad b))) Kr) ?_;refine al (ar rfl (cells := fe (Fp.BJ (Fp.pad b))) Kr) ?_;refine ag (ah rfl rfl (by rw [aj]; kernel_rfl) B1 (by rw [aj, aj]) (bC _)) rfl ?_;rintro _ _ ⟨rfl, B9, cg⟩;have E9 := E.aA cg Vq;refine aU ?_;refine hret rfl B9 (aj _) ?_;exact ⟨_, rfl, ⟨_, rfl, fun j _ => by have := Fp.Qn (Fp.pad b) j; omega, by rw [Fp.Nf _ hX, Fp.MB]; rfl⟩, E9⟩
end
section
section
open Go.RowKit Tryz
attribute [local irreducible] Y Ef WL WC WK WQ WM cv
theorem rY (k : Nat) (hk : k ≤ 1000000) (w : World) :
  ∃ v w', (callFunc 262 #[.int .i64 (k : Int)]).run Tryz.prog w = .ok (.value v) w' ∧ Ph w 5 k v w' := by
 obtain ⟨cs, hrun, hle, _⟩ := Lib.run_makeNoZero (P := Tryz.prog) w #[3] 23 5 underlying23 k Om;refine ⟨_, _, ?_, w.heap.size, cs, rfl, ao.new w.drew.drew 5 cs, hle, Nat.le_refl _, ?_⟩
 ·rw [run_callFunc_extern func262 Kr Kr Kr (e := Extern.BytealgMakeNoZero.makeNoZero #[3] #[23]) Kr, hrun];rfl
 exact (((Ext.drew w).tr (Ext.drew w.drew))).tr (Ext.alloc _ _)
theorem Ki (x y : Nat) (w : World) (hx : x < 18446744073709551616) (hy : y < 18446744073709551616) :
  Ct 261 #[.int .u64 (x : Int), .int .u64 (y : Int)] w fun e w' => e = .returned (.tuple #[.int .u64 ((x * y / 18446744073709551616 : Nat) : Int), .int .u64 ((x * y % 18446744073709551616 : Nat) : Int)]) ∧ Ext w w' := by
 refine bL 30 func261 rfl rfl rfl rfl ?_;intro _ hret;refine au 7 ?_;refine bg rfl rfl ?_;refine aU ?_;refine aC func237 rfl (p8 x y _ hx hy) ?_;rintro e _ ⟨rfl, ex⟩;refine aU ?_;refine hret rfl rfl ?_;exact ⟨rfl, ex⟩
def oE (w : World) (g n c : Nat) (b : UInt8) : Prop := ∃ tl : List Value, ao w g 5 ((List.replicate n b).map bv ++ tl).toArray ∧ n + tl.length = c
theorem oE.ext {c : Nat} (h : oE w g n c b) (k : Ext w w') : oE w' g n c b := by obtain ⟨tl, h1, h2⟩ := h; exact ⟨tl, h1.ext k, h2⟩
theorem oE.at {w : World} {g n c m : Nat} {b : UInt8} (h : oE w g n c b) (hm : m ≤ n) : At w (some ⟨g, 0, none⟩) ((List.replicate m b).map bv) := by
 obtain ⟨tl, h1, h2⟩ := h;refine h1.at 0 _ fun j u hu => ?_;have hj : j < m := by have := (List.getElem?_eq_some_iff.1 hu).1; simpa using this
 rw [Nat.zero_add];rw [List.map_replicate, List.getElem?_replicate_of_lt hj] at hu;simp only [List.map_replicate, List.getElem?_toArray];rw [List.getElem?_append_left So, List.getElem?_replicate_of_lt Om];exact hu
theorem JA {tl : List Value} (hm : m ≤ tl.length) :
  ((List.replicate n b).map bv ++ tl).take n ++ (List.replicate m b).map bv ++ ((List.replicate n b).map bv ++ tl).drop (n + ((List.replicate m b).map bv).length) = (List.replicate (n + m) b).map bv ++ tl.drop m := by
 simp only [List.map_replicate, List.length_replicate];rw [List.take_append_of_le_length (by simp), List.take_of_length_le (by simp), List.drop_append, List.drop_of_length_le (by simp), List.nil_append, List.length_replicate, show n + m - n = m by omega, List.replicate_append_replicate]
theorem AE (A : Oa) (c k : Nat) (b : UInt8) (w : World) (HA : Bs w A 1 [b]) (Vv : 0 < k) (hk : k ≤ 4000) :
  Ct 241 #[.slice A 1 c, .int .i64 (k : Int)] w fun e w' => ∃ g C, e = .returned (.slice (some ⟨g, 0, none⟩) k k) ∧ oE w' g k C b ∧ w.heap.size ≤ g ∧ Ext w w' := by
 refine ai 77 func241 rfl rfl rfl rfl ?_;intro _ hret;refine aU ?_;refine aC func261 rfl (Ki 1 k _ Om Om) ?_;rintro e _ ⟨rfl, ex⟩;refine au 1 ?_;replace HA := HA.ext ex;rw [show 1 * k / 18446744073709551616 = 0 by omega, show 1 * k % 18446744073709551616 = k by omega]; have E1 := ex;refine aU ?_;refine ag (NU rfl (rY k Om _)) rfl ?_;rintro _ _ ⟨g, cs, rfl, B2, hcs, hg, ex⟩;replace HA := HA.ext ex;have E2 := E1.ext ex;refine au 2 ?_;refine al (NB (s := 1) (h := k) (m := k) rfl rfl rfl Tn.u Kr rfl rfl Om hcs) ?_;refine aU ?_;refine ag (gY (cs := [b].map bv) rfl rfl Tn.u Kr B2 HA.2 (by show 1 = min 1 k; omega) (by show 0 + 1 ≤ cs.size; omega) aJ) rfl ?_;rintro _ w3 ⟨rfl, B3, cg⟩
 have Vq : w.heap.size ≤ g := Nat.le_trans E1.size hg; have E3 := E2.aA cg Vq; have R3 : oE w3 g 1 cs.size b := ⟨cs.toList.drop 1, B3.congr (by simp), by simp; omega⟩
 refine aU ?_;refine aD (fun n' L wr => ∃ i : Nat, L = [(7, .int .i64 (k : Int)), (8, .int .i64 (k : Int)), (9, .slice (some ⟨g, 0, none⟩) k k), (10, .int .i64 (i : Int))] ∧ n' = k - i ∧ (1 ≤ i ∧ i ≤ k ∧ Ext w wr ∧ oE wr g i cs.size b)) _ _ ⟨1, rfl, rfl, by omega, by omega, E3, R3⟩ Ls ?_;rintro _ n' L wr ⟨i, rfl, rfl, _, _, F, R⟩ Vs;refine aU ?_;refine ak rfl (fun Vt => ?_) (fun Vt => ?_)
 ·refine au 7 ?_;refine al (CU rfl rfl) ?_;rw [show (if (k : Int) < (i : Int) then (k : Int) else (i : Int)) = (i : Int) by rw [if_neg Om]];refine aU ?_;refine az Kr 10 rfl ?_; intro Vr ex Vu;replace F := F.ext ex; replace R := R.ext ex;refine zm [0, 1, 2] ?_;refine dg 3 rfl (fun _ => pH (s := 1) rfl rfl Tn.u Kr rfl Om) ?_;rw [show lE (some ⟨g, 0, none⟩) k i 1 = some (⟨g, i, none⟩ : Addr) by unfold lE; rw [if_neg Om, Nat.mul_one]; show some ((⟨g, 0, none⟩ : Addr).add i) = _; rw [add_lit, Nat.zero_add]];refine zm [4, 5] ?_;refine dg 6 rfl (fun _ => lV (s := 1) rfl rfl Tn.u Kr rfl Om) ?_;obtain ⟨tl, BR, hl⟩ := R
  have R : oE Vr g i cs.size b := ⟨tl, BR, hl⟩
  refine aL 7 Kr ?_; refine aQ rfl (gY (cs := (List.replicate (min i (k - i)) b).map bv) rfl rfl Tn.u Kr BR (R.at Om) (by simp) So aJ) rfl ?_;rintro _ _ ⟨rfl, B5, cg⟩;refine ⟨.inl rfl, ?_⟩;rw [JA Om] at B5; have F5 := F.aA cg Vq;refine my 8 rfl (aN rfl rfl (bD (n := i + min i (k - i)) (by simp) Om)) ?_;refine Gh [9] ?_;refine au 5 ?_;refine ae ?_;refine Vs _ _ ⟨i + min i (k - i), rfl, rfl, by omega, by omega, F5, ⟨_, B5, by simp; omega⟩⟩ Om Ls
 refine aU ?_;refine hret rfl ?_;obtain rfl : i = k := by omega
 exact ⟨g, cs.size, rfl, R, Vq, F⟩
def Tj (a b : UInt8) : List UInt8 := a :: (List.replicate 30 255 ++ [b])
theorem iG (a b : UInt8) (w : World) :
  Ct 204 #[.int .u8 (a.toNat : Int), .int .u8 (b.toNat : Int)] w fun e w' => ∃ g, e = .returned (.slice (some ⟨g, 0, none⟩) 32 32) ∧ Bs w' (some ⟨g, 0, none⟩) 32 (Tj a b) ∧ Ext w w' := by
 refine ai 15 func204 rfl rfl rfl rfl ?_;intro _ hret;refine aU ?_;refine ag (aF (z := .int .u8 0) Tn.u Kr rfl rfl rfl rfl rfl) rfl ?_;rintro _ w1 ⟨g1, rfl, B1, _, ex⟩;have E1 := ex; have H1 : Bs w1 (some ⟨g1, 0, none⟩) 1 [255] := bh (xs := [255]) B1 rfl;refine aC func241 rfl (AE _ 1 32 255 _ H1 Om Om) ?_;rintro e _ ⟨g, _, rfl, ⟨tl, B2, _⟩, hg, ex⟩;have E2 := E1.ext ex; have Vq : w.heap.size ≤ g := Nat.le_trans E1.size hg;refine au 10 ?_;refine al (aB rfl rfl Tn.u Kr (j := 0) rfl Om) ?_;refine ag (aq rfl rfl rfl Kr B2 (by simp)) rfl ?_;rintro _ _ ⟨rfl, B3, cg⟩;have E3 := E2.aA cg Vq;refine al (aB rfl rfl Tn.u Kr (j := 31) rfl Om) ?_;refine ag (aq rfl rfl rfl Kr B3 (by simp)) rfl ?_;rintro _ _ ⟨rfl, B4, cg⟩;have E4 := E3.aA cg Vq;refine aU ?_;refine hret rfl ?_;refine ⟨g, rfl, ⟨rfl, B4.at 0 _ fun j u hu => ?_⟩, E4⟩;have hj : j < 32 := (List.getElem?_eq_some_iff.1 hu).1;rw [← hu];simp only [Nat.zero_add, List.map_replicate, List.setIfInBounds_toArray, List.getElem?_toArray];rw [show (List.replicate 32 (bv 255) ++ tl).set 0 (.int .u8 (a.toNat : Int)) = bv a :: (List.replicate 31 (bv 255) ++ tl) from rfl];rw [show (bv a :: (List.replicate 31 (bv 255) ++ tl)).set 31 (.int .u8 (b.toNat : Int)) = (bv a :: (List.replicate 30 (bv 255) ++ [bv b])) ++ tl from rfl];rw [List.getElem?_append_left (by simpa using hj)];rfl
def FE (cs : Array Value) (a : Fp.F) : Prop := Fe cs a.val
theorem FE.of (h : Fe cs x) : FE cs (Fp.of x) := by unfold FE; rw [Fp.wh, Nat.mod_eq_of_lt h.lt]; exact h
theorem FE.congr {a b : Fp.F} (h : FE cs a) (e : a = b) : FE cs b := e ▸ h
theorem FE.size {a : Fp.F} (h : FE cs a) : cs.size = 5 := Fe.size h
theorem FE.one {a : Fp.F} (h : FE cs a) : cs.all (·.oneCell') = true := Fe.one h
theorem FE.zero : FE (fe (fun _ => 0)) 0 := Fe.zero
section
variable {a b : Fp.F}
theorem bQ (ha : FE cs a) (hb : FE ds b) (w : World) : Ct 144 #[.agg cs, .agg ds] w fun e w' => ∃ es, e = .returned (.agg es) ∧ FE es (a * b) ∧ Ext w w' :=
 (zV ha hb w).mono fun _ _ ⟨es, h1, h2, h3⟩ => ⟨es, h1, by unfold FE; rw [Fp.val_mul]; exact h2, h3⟩
theorem eZ (ha : FE cs a) (hb : FE ds b) (w : World) : Ct 151 #[.agg cs, .agg ds] w fun e w' => ∃ es, e = .returned (.agg es) ∧ FE es (a + b) ∧ Ext w w' :=
 (IP ha hb w).mono fun _ _ ⟨es, h1, h2, h3⟩ => ⟨es, h1, by unfold FE; rw [Fp.val_add]; exact h2, h3⟩
theorem gF (ha : FE cs a) (hb : FE ds b) (w : World) : Ct 206 #[.agg cs, .agg ds] w fun e w' => ∃ es, e = .returned (.agg es) ∧ FE es (a - b) ∧ Ext w w' :=
 (zQ ha hb w).mono fun _ _ ⟨es, h1, h2, h3⟩ => ⟨es, h1, by unfold FE; rw [Fp.val_sub]; exact h2, h3⟩
theorem iN (ha : FE cs a) (w : World) : Ct 208 #[.agg cs] w fun e w' => ∃ es, e = .returned (.agg es) ∧ FE es (-a) ∧ Ext w w' :=
 (JO ha w).mono fun _ _ ⟨es, h1, h2, h3⟩ => ⟨es, h1, by unfold FE; rw [Fp.val_neg]; exact h2, h3⟩
theorem cx (ha : FE cs a) (w : World) : Ct 205 #[.agg cs] w fun e w' => ∃ es, e = .returned (.agg es) ∧ FE es (a * a) ∧ Ext w w' :=
 (zR ha w).mono fun _ _ ⟨es, h1, h2, h3⟩ => ⟨es, h1, by unfold FE; rw [Fp.val_mul]; exact h2, h3⟩
theorem dv (n : Nat) (w : World) (hn : n < 18446744073709551616) : Ct 143 #[.int .u64 (n : Int)] w fun e w' => ∃ es, e = .returned (.agg es) ∧ FE es (Fp.of n) ∧ Ext w w' :=
 (KO n w hn).mono fun _ _ ⟨es, h1, h2, h3⟩ => ⟨es, h1, FE.of h2, h3⟩
theorem fu (ha : FE cs a) (hb : FE ds b) (w : World) : Ct 242 #[.agg cs, .agg ds] w fun e w' => e = .returned (.bool (decide (a = b))) ∧ Ext w w' :=
 (Ft ha hb w).mono fun _ _ ⟨h1, h2⟩ => ⟨h1.trans (dM Fp.val_inj), h2⟩
theorem iW (ha : FE cs a) (w : World) : Ct 156 #[.agg cs] w fun e w' => e = .returned (.bool (decide (a.val % 2 = 1))) ∧ Ext w w' := Lc ha w
end
theorem Lw (a : Fp.F) (N j : Nat) : Fp.pow a (N / 2 ^ j) = if N / 2 ^ j % 2 = 1 then Fp.pow a (N / 2 ^ (j + 1)) * Fp.pow a (N / 2 ^ (j + 1)) * a else Fp.pow a (N / 2 ^ (j + 1)) * Fp.pow a (N / 2 ^ (j + 1)) := by
 have e : N / 2 ^ (j + 1) = N / 2 ^ j / 2 := by rw [Nat.pow_succ, Nat.div_div_eq_div_mul]
 rw [e, ← Fp.kK];split
 ·rw [← Fp.pow_succ]; congr 1; omega
 congr 1; omega
theorem DK (es : Lb) (j : Nat) (hj : j / 8 < es.length) : (es.getD (j / 8) 0).toNat / 2 ^ (j % 8) % 2 = Fp.num es / 2 ^ j % 2 := by
 have h1 := Fp.td es (j / 8) Om;have h2 : es.drop (j / 8) = es[j / 8] :: es.drop (j / 8 + 1) := List.drop_eq_getElem_cons hj;rw [h2, Fp.num] at h1;rw [Fp.mu j, Nat.mul_comm, ← Nat.div_div_eq_div_mul, ← h1, List.getD_eq_getElem?_getD, List.getElem?_eq_getElem hj];show (es[j / 8]).toNat / _ % 2 = _;generalize (es[j / 8]).toNat = x;generalize Fp.num (es.drop (j / 8 + 1)) = y;have hlt : j % 8 < 8 := Nat.mod_lt _ Om;generalize j % 8 = m at hlt;have : m = 0 ∨ m = 1 ∨ m = 2 ∨ m = 3 ∨ m = 4 ∨ m = 5 ∨ m = 6 ∨ m = 7 := by omega
 rcases this with rfl | rfl | rfl | rfl | rfl | rfl | rfl | rfl <;> simp only [Nat.reducePow] <;> omega
theorem GI (x m : Nat) (hm : m < 8) : (x : Int) / 2 ^ (min ((m : Int)).toNat IntKind.u8.bits) = ((x / 2 ^ m : Nat) : Int) := by
 have e : min ((m : Int)).toNat IntKind.u8.bits = m := by show min m 8 = m; omega
 rw [e, Int.natCast_ediv, Int.natCast_pow]; rfl
theorem OV (x : Nat) (hx : x < 256) : bits .and .u8 (x : Int) 1 = ((x % 2 : Nat) : Int) := by have h := (bH (p := x) (q := 1) hx Om).1;rw [show ((1 : Int)) = ((1 : Nat) : Int) from rfl, h, Nat.and_one_is_mod]
theorem iZ {a : Fp.F} (ha : FE cs a) (A : Oa) (n c : Nat) (es : Lb) (w : World) (HA : Bs w A n es) (hn : n ≤ 1000) :
  Ct 203 #[.agg cs, .slice A n c] w fun e w' => ∃ ds, e = .returned (.agg ds) ∧ FE ds (Fp.pow a (Fp.num es)) ∧ Ext w w' := by
 have hle := HA.1;have Vy := HA;refine aK (s := 5) 31 func203 rfl rfl rfl underlying134 rfl Kr rfl ?_;intro _ hret;refine aU ?_;intro w1 g1 (B1 : ao _ _ _ (cs)) VF ex;have E1 := ex; have VG := B1.lt;refine aU ?_;intro w2 g2 (B2 : ao _ _ _ (fe (fun _ => 0))) Vz ex;have E2 := E1.ext ex; replace B1 := B1.ext ex; have Vt : w.heap.size ≤ g2 := Nat.le_trans E1.size Vz; have VA := B2.lt;refine aU ?_;refine fY 0 (fun n' L wr => ∃ (b g4 : Nat) (ds : Array Value), L = [(1, .slice A n c), (2, .pointer (some ⟨g1, 0, none⟩)), (4, .pointer (some ⟨g2, 0, none⟩)), (5, .pointer (some ⟨g4, 0, none⟩)), (6, .int .i64 (b : Int))] ∧ n' = 1 + b ∧ (b ≤ 8 * n ∧ w.heap.size ≤ g4 ∧ g1 < g2 ∧ g2 < g4 ∧ Ext w wr ∧ ao wr g1 134 cs ∧ ao wr g2 134 (fe (fun _ => 0)) ∧ ao wr g4 134 ds ∧ FE ds (Fp.pow a (Fp.num es / 2 ^ b)))) rfl ?_ ?_
 ·rintro G n' L wr ⟨b, g4, ds, rfl, rfl, _, Vq, Vv, Vw, F, C1, C2, C4, D⟩ Vs;refine aU ?_;refine ak rfl (fun VB => ?_) (fun VB => ?_)
  ·skip
   obtain ⟨j, rfl⟩ : ∃ i, b = i + 1 := ⟨b - 1, by omega⟩
   rw [show (((j + 1 : Nat) : Int) - 1) = (j : Int) by omega];have Vx : j / 8 < n := by omega
   have hpb := Lw a (Fp.num es) j;have hnb := DK es j Om;obtain ⟨b1, VC, x, rfl, hx, Vr⟩ := Vy.byte (k := j / 8) Vx;have hcx := (F.cell (dX Vr)).trans Vr;have hxl := x.toNat_lt;rw [← hx.out] at hnb;have hxd : x.toNat / 2 ^ (j % 8) < 256 := Nat.lt_of_le_of_lt (Nat.div_le_self _ _) Om;refine aU ?_;refine aC func205 rfl (cx D _) ?_;rintro e w6 ⟨d6, rfl, D6, ex⟩;refine au 1 ?_;have F6 := F.ext ex; replace C1 := C1.ext ex; replace C2 := C2.ext ex; replace C4 := C4.ext ex;refine ag (ah rfl rfl (by rw [D6.size]; kernel_rfl) C4 (by rw [D.size, D6.size]) D6.one) rfl ?_;rintro _ _ ⟨rfl, B7, cg⟩;replace F := F6.aA cg Vq; replace C1 := C1.aA cg Om; replace C2 := C2.aA cg Om; replace C4 := B7; have hcx := (F.cell (dX Vr)).trans Vr;refine au 7 ?_;refine al (dG rfl rfl Om (show IntKind.i64.wrap ((j : Int).tdiv 8) = ((j / 8 : Nat) : Int) from bD rfl Om)) ?_;refine al (aB rfl rfl Tn.u Kr (j := j / 8) rfl Vx) ?_;refine al (af rfl Tn.u rfl hcx) ?_;refine au 1 ?_;refine al (ck rfl rfl Om (show ((j : Int).tmod 8) = ((j % 8 : Nat) : Int) from rfl)) ?_;refine al (cB rfl rfl Om (GI _ _ Om)) ?_;refine al (cV rfl rfl (OV _ hxd)) ?_;refine aU ?_;refine ak rfl (fun VD => ?_) (fun VD => ?_)
   ·refine aU ?_;refine aC func144 rfl (bQ D6 ha _) ?_;rintro e _ ⟨d8, rfl, D8, ex⟩;refine au 1 ?_;have F8 := F.ext ex; replace C1 := C1.ext ex; replace C2 := C2.ext ex; replace C4 := C4.ext ex;refine ag (ah rfl rfl (by rw [D8.size]; kernel_rfl) C4 (by rw [D6.size, D8.size]) D8.one) rfl ?_;rintro _ _ ⟨rfl, B9, cg⟩;replace F := F8.aA cg Vq; replace C1 := C1.aA cg Om; replace C2 := C2.aA cg Om; replace C4 := B9;refine aU ?_;refine cz ?_;refine Vs _ _ ⟨j, g4, d8, rfl, rfl, by omega, Vq, Vv, Vw, F, C1, C2, C4, D8.congr (by rw [hpb, if_pos Om])⟩ Om Ls
   refine aU ?_;refine cz ?_;refine Vs _ _ ⟨j, g4, d6, rfl, rfl, by omega, Vq, Vv, Vw, F, C1, C2, C4, D6.congr (by rw [hpb, if_neg Om])⟩ Om Ls
  refine au 5 ?_;refine ag (ah rfl rfl (by rw [D.size]; kernel_rfl) C2 (by rw [aj, D.size]) D.one) rfl ?_;rintro _ w6 ⟨rfl, B6, cg⟩;have F6 := F.aA cg Vt;refine aU ?_;refine bW ?_;refine hret rfl B6 D.size ?_;exact ⟨_, rfl, D.congr (by rw [show b = 0 by omega, Nat.pow_zero, Nat.div_one]), F6⟩
 intro G Vs;refine aU ?_;refine aC func143 rfl (dv 1 _ Om) ?_;rintro e _ ⟨d3, rfl, F3, ex⟩;have E3 := E2.ext ex; replace B1 := B1.ext ex; replace B2 := B2.ext ex;refine aU ?_;intro w4 g4 (B4 : ao _ _ _ (fe (fun _ => 0))) VE ex;have E4 := E3.ext ex; replace B1 := B1.ext ex; have VA := B2.lt; replace B2 := B2.ext ex; have Vq : w.heap.size ≤ g4 := Nat.le_trans E3.size VE;refine ag (ah rfl rfl (by rw [F3.size]; kernel_rfl) B4 (by rw [aj, F3.size]) F3.one) rfl ?_;rintro _ _ ⟨rfl, B5, cg⟩;have E5 := E4.aA cg Vq; replace B1 := B1.aA cg (by have := B1.lt; omega); replace B2 := B2.aA cg Om;refine au 6 ?_;refine al (cL rfl rfl (bD (n := 8 * n) Om Om)) ?_;refine au 3 ?_;refine er ?_; intro VH Vu;refine iq ?_;refine ae (Vu ?_);exact Vs _ _ ⟨8 * n, g4, d3, rfl, rfl, Nat.le_refl _, Vq, by omega, by have := E3.size; omega, E5, B1, B2, B5, F3.congr (by rw [Nat.div_eq_of_lt (by have := Fp.qf es; rw [hle] at this; rwa [Nat.pow_mul]), Fp.pow_zero]; rfl)⟩ Ls
end
section
namespace Sc
def W : Nat := 18446744073709551616
theorem OE : 0 < W := by unfold W; omega
theorem Wp (i : Nat) : 0 < W ^ i := Nat.pow_pos OE
def wl (k n : Nat) : List Nat := Fp.fn k fun j => n / W ^ j % W
def L : Nat := Ed.L
theorem T5 : L = 7237005577332262213973186563042994240857116359379907606001950938285454250989 := rfl
theorem fH (a i : Nat) : a % W ^ (i + 1) = a % W ^ i + W ^ i * (a / W ^ i % W) := by rw [Nat.pow_succ, Nat.mod_mul]
theorem KP (a b i : Nat) : (a / W ^ i % W + b / W ^ i % W + (a % W ^ i + b % W ^ i) / W ^ i) % W = (a + b) / W ^ i % W ∧ (a / W ^ i % W + b / W ^ i % W + (a % W ^ i + b % W ^ i) / W ^ i) / W = (a % W ^ (i + 1) + b % W ^ (i + 1)) / W ^ (i + 1) := by
 have hp := Wp i;have e1 := fH a i;have e2 := fH b i
 have hS : (a % W ^ (i + 1) + b % W ^ (i + 1)) / W ^ i = a / W ^ i % W + b / W ^ i % W + (a % W ^ i + b % W ^ i) / W ^ i := by rw [e1, e2, show a % W ^ i + W ^ i * (a / W ^ i % W) + (b % W ^ i + W ^ i * (b / W ^ i % W)) = (a % W ^ i + b % W ^ i) + W ^ i * (a / W ^ i % W + b / W ^ i % W) from by grind, Nat.add_mul_div_left _ _ hp];omega
 constructor
 ·rw [← hS]
  have h : a + b = (a % W ^ (i + 1) + b % W ^ (i + 1)) + W ^ (i + 1) * (a / W ^ (i + 1) + b / W ^ (i + 1)) := by have h1 := Nat.mod_add_div a (W ^ (i + 1)); have h2 := Nat.mod_add_div b (W ^ (i + 1));rw [Nat.mul_add]; omega
  rw [h, Nat.pow_succ, Nat.mul_assoc, Nat.add_mul_div_left _ _ hp, Nat.add_mul_mod_self_left]
 rw [← hS, Nat.div_div_eq_div_mul, Nat.pow_succ]
def Aq (a b i : Nat) : Nat := if a % W ^ i < b % W ^ i then 1 else 0
theorem Ca (a b i : Nat) : Aq a b i ≤ 1 := by unfold Aq; split <;> omega
theorem lex_lt {A B la lb : Nat} (ha : la < P) (hb : lb < P) : la + P * A < lb + P * B ↔ A < B ∨ (A = B ∧ la < lb) := by
 rcases Nat.lt_trichotomy A B with h | h | h
 ·have := Nat.mul_le_mul_left P (Nat.succ_le_of_lt h);grind
 ·grind
 have := Nat.mul_le_mul_left P (Nat.succ_le_of_lt h);grind
theorem JF (a b i : Nat) : Aq a b (i + 1) = if a / W ^ i % W < b / W ^ i % W + Aq a b i then 1 else 0 := by have hp := Wp i;have key := lex_lt (P := W ^ i) (A := a / W ^ i % W) (B := b / W ^ i % W) (Nat.mod_lt a hp) (Nat.mod_lt b hp);rw [← fH, ← fH] at key;unfold Aq;grind
theorem vV (qa qb M c : Nat) (hc : c ≤ 1) (h : qb + c ≤ qa + 18446744073709551616 * M) : (qa + 18446744073709551616 * M - qb - c) % 18446744073709551616 = (qa % 18446744073709551616 + 2 * 18446744073709551616 - qb % 18446744073709551616 - c) % 18446744073709551616 := by omega
theorem MT {M b ra rb qa qb : Nat} (hp : 0 < P) (ha : a = P * qa + ra) (hb : b = P * qb + rb) (la : ra < P) (lb : rb < P) (h : b ≤ P * M) : (a + P * M - b) / P = qa + M - qb - (if ra < rb then 1 else 0) ∧ qb + (if ra < rb then 1 else 0) ≤ M := by
 have hq : qb ≤ M := by apply Classical.byContradiction; intro hc;have := Nat.mul_le_mul_left P (show M + 1 ≤ qb by omega);grind
 split
 ·rename_i hlt
  have Vq : qb + 1 ≤ M := by grind
  refine ⟨?_, Vq⟩
  obtain ⟨k, rfl⟩ : ∃ k, M = qb + 1 + k := ⟨M - (qb + 1), by omega⟩
  have e : a + P * (qb + 1 + k) - b = (P + ra - rb) + P * (qa + k) := by grind
  rw [e, Nat.add_mul_div_left _ _ hp, Nat.div_eq_of_lt Om]; omega
 rename_i hlt;refine ⟨?_, hq⟩
 obtain ⟨k, rfl⟩ : ∃ k, M = qb + k := ⟨M - qb, by omega⟩
 have e : a + P * (qb + k) - b = (ra - rb) + P * (qa + k) := by grind
 rw [e, Nat.add_mul_div_left _ _ hp, Nat.div_eq_of_lt Om]; omega
theorem LX {b : Nat} (hb : b ≤ W ^ 4) (hi : i < 4) : (a + W ^ 4 - b) / W ^ i % W = (a / W ^ i % W + 2 * W - b / W ^ i % W - Aq a b i) % W := by
 have hp := Wp i;have e4 : W ^ 4 = W ^ i * (W * W ^ (3 - i)) := by rw [← Nat.mul_assoc, ← Nat.pow_succ, ← Nat.pow_add]; congr 1; omega
 have h := MT (M := W * W ^ (3 - i)) hp (Nat.div_add_mod a (W ^ i)).symm (Nat.div_add_mod b (W ^ i)).symm (Nat.mod_lt _ hp) (Nat.mod_lt _ hp) Om;rw [e4, h.1];have hc := Ca a b i;have h2 := h.2
 unfold Aq at *
 exact vV _ _ _ _ hc (Nat.le_trans h2 (Nat.le_add_left _ _))
theorem MI {b : Nat} (ha : a < W ^ 4) (hb : b < W ^ 4) : Aq a b 4 = if a < b then 1 else 0 := by unfold Aq; rw [Nat.mod_eq_of_lt ha, Nat.mod_eq_of_lt hb]
theorem Et : L < W ^ 4 := by decide +kernel
theorem SY : 2 * L < W ^ 4 := by decide +kernel
theorem Uz : wl 4 L = [0x5812631a5cf5d3ed, 0x14def9dea2f79cd6, 0, 0x1000000000000000] := by decide +kernel
end Sc
end
section
open Go.RowKit Tryz
attribute [local irreducible] Y Ef WL WC WK WQ WM cv WN WF cZ
theorem FL (x y c : Nat) (hc : c ≤ 1) (w : World) :
  (callFunc 263 #[.int .u64 (x : Int), .int .u64 (y : Int), .int .u64 (c : Int)]).run Tryz.prog w = .ok (.value (.tuple #[.int .u64 (((x + 18446744073709551616 - y - c) % 18446744073709551616 : Nat) : Int), .int .u64 ((if x < y + c then 1 else 0 : Nat) : Int)])) w := by
 rw [run_callFunc_extern func263 Kr Kr Kr (e := sub64Entry) Kr, run_sub64 x y c hc];rfl
def ws (f : Nat → Nat) : Array Value := aM .u64 (Fp.fn 4 f)
theorem aw (f : Nat → Nat) : (ws f).size = 4 := by rw [ws, bu, Fp.eT]
theorem kV (f : Nat → Nat) (hi : i = j) (h : j < 4) : (ws f)[i]? = some (.int .u64 (f j : Nat)) := by subst hi; rw [ws, dL _ _ _ (by rw [Fp.eT]; exact h), Fp.sP f h]
theorem LB (f : Nat → Nat) (i x : Nat) : (ws f).setIfInBounds i (.int .u64 (x : Int)) = ws (fun j => if j = i then x else f j) := by rw [ws, gD, Fp.AI, ws]
theorem eu (f : Nat → Nat) : (ws f).all (·.oneCell') = true := dc _ _
theorem iP {f g : Nat → Nat} (h : ∀ j, j < 4 → f j = g j) : ws f = ws g := by unfold ws; rw [Fp.oV h]
def z4 : Nat → Nat := fun _ => 0
namespace Sc
def wd (n j : Nat) : Nat := n / W ^ j % W
theorem uD (n j : Nat) : wd n j < 18446744073709551616 := Nat.mod_lt _ OE
def oT (n i j : Nat) : Nat := if j < i then wd n j else 0
theorem vl (n : Nat) : ws (oT n 4) = ws (wd n) := iP fun j h => by unfold oT; rw [if_pos h]
theorem tH (n : Nat) : ws z4 = ws (oT n 0) := iP fun j h => by unfold oT; rw [if_neg Om]; rfl
theorem rZ (h : x = wd n i) : (ws (oT n i)).setIfInBounds (0 + i) (.int .u64 (x : Int)) = ws (oT n (i + 1)) := by
 rw [Nat.zero_add, LB];refine iP fun j hj => ?_;unfold oT;by_cases h1 : j = i
 ·grind
 grind
def Mc (a b i : Nat) : Nat := (a % W ^ i + b % W ^ i) / W ^ i
theorem Qe (a b i : Nat) : Mc a b i ≤ 1 := by unfold Mc;have h1 := Nat.mod_lt a (Wp i); have h2 := Nat.mod_lt b (Wp i);have := Nat.div_lt_of_lt_mul (show a % W ^ i + b % W ^ i < W ^ i * 2 by omega);omega
theorem xE (a b i : Nat) : (wd a i + wd b i + Mc a b i) % 18446744073709551616 = wd (a + b) i ∧ (wd a i + wd b i + Mc a b i) / 18446744073709551616 = Mc a b (i + 1) := KP a b i
theorem JR {b : Nat} (hb : b ≤ W ^ 4) (hi : i < 4) : (wd a i + 18446744073709551616 - wd b i - Aq a b i) % 18446744073709551616 = wd (a + W ^ 4 - b) i := by
 have h := LX (a := a) hb hi;have h1 := uD a i; have h2 := uD b i; have h3 := Ca a b i
 unfold wd at *
 rw [h]
 simp only [show W = 18446744073709551616 from rfl] at *
 omega
theorem HQ (a b : Nat) : Aq a b 0 = 0 := by unfold Aq; rw [if_neg (by simp [Nat.mod_one])]
theorem J9 (a b : Nat) : Mc a b 0 = 0 := by unfold Mc; grind
theorem LU (a b i : Nat) : (if wd a i < wd b i + Aq a b i then 1 else 0) = Aq a b (i + 1) := (JF a b i).symm
end Sc
theorem Bm (w : World) : Ct 245 #[] w fun e w' => e = .returned (.agg (ws (Sc.wd Sc.L))) ∧ Ext w w' := by
 have E := Ext.refl w
 have hL : ws (Sc.wd Sc.L) = #[.int .u64 6346243789798364141, .int .u64 1503914060200516822, .int .u64 0, .int .u64 1152921504606846976] := by have := Sc.Uz;unfold Sc.wl at this;show aM .u64 (Fp.fn 4 (Sc.wd Sc.L)) = _;rw [show Fp.fn 4 (Sc.wd Sc.L) = _ from this];rfl
 refine aK (s := 4) 2 func245 rfl rfl rfl underlying139 rfl Kr rfl ?_;intro _ hret;refine aU ?_;intro w1 g0 (B0 : ao _ _ _ (ws z4)) Vq ex;replace E := E.ext ex;refine au 4 ?_;refine al (ar rfl (cells := ws (Sc.wd Sc.L)) (by rw [hL]; kernel_rfl)) ?_;refine ag (ah rfl rfl (by rw [aw]; kernel_rfl) B0 (by rw [aw, aw]) (eu _)) rfl ?_;rintro _ _ ⟨rfl, D0, cg⟩;replace E := E.aA cg Vq;refine aU ?_;refine hret rfl D0 (aw _) ?_;exact ⟨rfl, E⟩
theorem LQ (a b : Nat) (w : World) (hb : b ≤ Sc.W ^ 4) :
  Ct 244 #[.agg (ws (Sc.wd a)), .agg (ws (Sc.wd b))] w fun e w' => e = .returned (.tuple #[.agg (ws (Sc.wd (a + Sc.W ^ 4 - b))), .int .u64 ((Sc.Aq a b 4 : Nat) : Int)]) ∧ Ext w w' := by
 have E := Ext.refl w;refine du (s := 4) 28 func244 rfl rfl rfl underlying139 rfl Kr rfl ?_;intro _ hret;refine aU ?_;intro w1 g2 (B2 : ao _ _ _ (ws (Sc.wd a))) Vs ex;replace E := E.ext ex;refine aU ?_;intro w2 g3 (B3 : ao _ _ _ (ws (Sc.wd b))) Vt ex;obtain ⟨E,B2⟩ := aZ ex E B2;have Vu := E.size;refine aU ?_;intro w3 g4 (B4 : ao _ _ _ (ws z4)) Vv ex;obtain ⟨E,B2,B3⟩ := bF ex E B2 B3;have Vw := B2.lt; have Vx := B3.lt; have Vy := B4.lt;refine aU ?_;intro w4 g6 (B6 : ao _ _ _ (ws z4)) Vz ex;obtain ⟨E,B2,B3,B4⟩ := bU ex E B2 B3 B4;rw [Sc.tH (a + Sc.W ^ 4 - b)] at B6;refine aU ?_;refine aD (fun n' L wr => ∃ (i k : Nat), L = [(2, .pointer (some ⟨g2, 0, none⟩)), (3, .pointer (some ⟨g3, 0, none⟩)), (4, .pointer (some ⟨g4, 0, none⟩)), (6, .pointer (some ⟨g6, 0, none⟩)), (7, .int .u64 (k : Int)), (9, .int .i64 (i : Int))] ∧ n' = 4 - i ∧ (i ≤ 4 ∧ k = Sc.Aq a b i ∧ Ext w wr ∧ ao wr g2 139 (ws (Sc.wd a)) ∧ ao wr g3 139 (ws (Sc.wd b)) ∧ ao wr g4 139 (ws z4) ∧ ao wr g6 139 (ws (Sc.oT (a + Sc.W ^ 4 - b) i)))) _ _ ⟨0, 0, rfl, rfl, by omega, (Sc.HQ a b).symm, E, B2, B3, B4, B6⟩ Ls ?_;rintro _ n' L wr ⟨i, k, rfl, rfl, _, hk, E, B2, B3, B4, B6⟩ Vq;refine aU ?_;refine ak rfl (fun Vr => ?_) (fun Vr => ?_)
 ·refine aU ?_;refine az Kr 15 rfl ?_; intro VA ex VB;obtain ⟨E,B2,B3,B4,B6⟩ := eQ ex E B2 B3 B4 B6;refine zm [0, 1, 2] ?_;refine my 3 rfl (af rfl Tn.u rfl (B2.get (kV _ (Nat.zero_add i) Om))) ?_;refine zm [4, 5] ?_;refine my 6 rfl (af rfl Tn.u rfl (B3.get (kV _ (Nat.zero_add i) Om))) ?_;refine zm [7] ?_;refine my 8 rfl ((nT rfl (FL _ _ _ (hk ▸ Sc.Ca a b i)))) ?_;refine Gh [9, 10, 11, 12] ?_;refine au 5 ?_;subst hk;rw [Sc.LU a b i];refine aL 13 Kr ?_; refine aQ rfl (aq rfl rfl rfl Kr B6 (by rw [aw]; omega)) rfl ?_;rintro _ _ ⟨rfl, D6, cg⟩;refine ⟨.inl rfl, ?_⟩;rw [Sc.rZ (Sc.JR hb Om)] at D6; replace E := E.aA cg Om; replace B2 := B2.aA cg Om; replace B3 := B3.aA cg Om; replace B4 := B4.aA cg Om; replace B6 := D6;refine Gh [14] ?_;refine au 10 ?_;refine ae ?_;refine Vq _ _ ⟨i + 1, _, rfl, rfl, by omega, rfl, E, B2, B3, B4, B6⟩ Om Ls
 obtain rfl : i = 4 := by omega
 subst hk;rw [Sc.vl] at B6;refine au 9 ?_;refine ag (ah rfl rfl (by rw [aw]; kernel_rfl) B4 (by rw [aw, aw]) (eu _)) rfl ?_;rintro _ _ ⟨rfl, D4, cg⟩;replace E := E.aA cg Om;refine aU ?_;refine hret rfl rfl D4 (aw _) ?_;exact ⟨rfl, E⟩
theorem zq (a b : Nat) (w : World) :
  Ct 235 #[.agg (ws (Sc.wd a)), .agg (ws (Sc.wd b))] w fun e w' => e = .returned (.tuple #[.agg (ws (Sc.wd (a + b))), .int .u64 ((Sc.Mc a b 4 : Nat) : Int)]) ∧ Ext w w' := by
 have E := Ext.refl w;refine du (s := 4) 28 func235 rfl rfl rfl underlying139 rfl Kr rfl ?_;intro _ hret;refine aU ?_;intro w1 g2 (B2 : ao _ _ _ (ws (Sc.wd a))) Vs ex;replace E := E.ext ex;refine aU ?_;intro w2 g3 (B3 : ao _ _ _ (ws (Sc.wd b))) Vt ex;obtain ⟨E,B2⟩ := aZ ex E B2;have Vu := E.size;refine aU ?_;intro w3 g4 (B4 : ao _ _ _ (ws z4)) Vv ex;obtain ⟨E,B2,B3⟩ := bF ex E B2 B3;have Vw := B2.lt; have Vx := B3.lt; have Vy := B4.lt;refine aU ?_;intro w4 g6 (B6 : ao _ _ _ (ws z4)) Vz ex;obtain ⟨E,B2,B3,B4⟩ := bU ex E B2 B3 B4;rw [Sc.tH (a + b)] at B6;refine aU ?_;refine aD (fun n' L wr => ∃ (i k : Nat), L = [(2, .pointer (some ⟨g2, 0, none⟩)), (3, .pointer (some ⟨g3, 0, none⟩)), (4, .pointer (some ⟨g4, 0, none⟩)), (6, .pointer (some ⟨g6, 0, none⟩)), (7, .int .u64 (k : Int)), (9, .int .i64 (i : Int))] ∧ n' = 4 - i ∧ (i ≤ 4 ∧ k = Sc.Mc a b i ∧ Ext w wr ∧ ao wr g2 139 (ws (Sc.wd a)) ∧ ao wr g3 139 (ws (Sc.wd b)) ∧ ao wr g4 139 (ws z4) ∧ ao wr g6 139 (ws (Sc.oT (a + b) i)))) _ _ ⟨0, 0, rfl, rfl, by omega, (Sc.J9 a b).symm, E, B2, B3, B4, B6⟩ Ls ?_;rintro _ n' L wr ⟨i, k, rfl, rfl, _, hk, E, B2, B3, B4, B6⟩ Vq;refine aU ?_;refine ak rfl (fun Vr => ?_) (fun Vr => ?_)
 ·refine aU ?_;refine az Kr 15 rfl ?_; intro VA ex VB;obtain ⟨E,B2,B3,B4,B6⟩ := eQ ex E B2 B3 B4 B6;refine zm [0, 1, 2] ?_;refine my 3 rfl (af rfl Tn.u rfl (B2.get (kV _ (Nat.zero_add i) Om))) ?_;refine zm [4, 5] ?_;refine my 6 rfl (af rfl Tn.u rfl (B3.get (kV _ (Nat.zero_add i) Om))) ?_;refine zm [7] ?_;refine my 8 rfl ((nT rfl (iI _ _ _ (hk ▸ Sc.Qe a b i)))) ?_;refine Gh [9, 10, 11, 12] ?_;refine au 5 ?_;subst hk;rw [(Sc.xE a b i).2];refine aL 13 Kr ?_; refine aQ rfl (aq rfl rfl rfl Kr B6 (by rw [aw]; omega)) rfl ?_;rintro _ _ ⟨rfl, D6, cg⟩;refine ⟨.inl rfl, ?_⟩;rw [Sc.rZ (Sc.xE a b i).1] at D6; replace E := E.aA cg Om; replace B2 := B2.aA cg Om; replace B3 := B3.aA cg Om; replace B4 := B4.aA cg Om; replace B6 := D6;refine Gh [14] ?_;refine au 10 ?_;refine ae ?_;refine Vq _ _ ⟨i + 1, _, rfl, rfl, by omega, rfl, E, B2, B3, B4, B6⟩ Om Ls
 obtain rfl : i = 4 := by omega
 subst hk;rw [Sc.vl] at B6;refine au 9 ?_;refine ag (ah rfl rfl (by rw [aw]; kernel_rfl) B4 (by rw [aw, aw]) (eu _)) rfl ?_;rintro _ _ ⟨rfl, D4, cg⟩;replace E := E.aA cg Om;refine aU ?_;refine hret rfl rfl D4 (aw _) ?_;exact ⟨rfl, E⟩
theorem Sc.PE (n j : Nat) (h : j < 4) : Sc.wd (n + Sc.W ^ 4) j = Sc.wd n j := by
 unfold Sc.wd;have e4 : Sc.W ^ 4 = Sc.W ^ j * (Sc.W * Sc.W ^ (3 - j)) := by rw [← Nat.mul_assoc, ← Nat.pow_succ, ← Nat.pow_add]; congr 1; omega
 rw [e4, Nat.add_mul_div_left _ _ (Sc.Wp j), Nat.add_mul_mod_self_left]
theorem vk (a : Nat) (w : World) (ha : a < 2 * Sc.L) :
  Ct 236 #[.agg (ws (Sc.wd a))] w fun e w' => e = .returned (.agg (ws (Sc.wd (a % Sc.L)))) ∧ Ext w w' := by
 have E := Ext.refl w;have hL := Sc.Et;have Vy := Sc.SY;have hbor := Sc.MI (a := a) (b := Sc.L) Om hL
 have hge : ¬ a < Sc.L → ws (Sc.wd (a + Sc.W ^ 4 - Sc.L)) = ws (Sc.wd (a % Sc.L)) := fun h => iP fun j hj => by rw [show a + Sc.W ^ 4 - Sc.L = (a - Sc.L) + Sc.W ^ 4 by omega, Sc.PE _ _ hj, Nat.mod_eq_sub_mod Om, Nat.mod_eq_of_lt Om]
 refine aK (s := 4) 15 func236 rfl rfl rfl underlying139 rfl Kr rfl ?_;intro _ hret;refine aU ?_;intro w1 g1 (B1 : ao _ _ _ (ws (Sc.wd a))) Vz ex;replace E := E.ext ex;have hz := E.size;refine aU ?_;intro w2 g2 (B2 : ao _ _ _ (ws z4)) VA ex;obtain ⟨E,B1⟩ := aZ ex E B1;have Vu : w.heap.size ≤ g2 := Om;refine aU ?_;refine dB Kr 9 rfl ?_; intro Vv ex VB;obtain ⟨E,B1,B2⟩ := bF ex E B1 B2;have Vw := E;have Vq := B1;have Vs := B2;have X0 := Ext.refl Vv;refine cS 0 rfl Kr ((aW rfl Tn.u rfl (by rw [aw]; kernel_rfl) Vq)) rfl ?_;refine dC (fl := [rQ 6 3 139 (ws z4)]) rfl ?_;refine kM 1 (some 7) func245 ?_;intro _ ex exb;obtain ⟨E,B1,B2,X0⟩ := bU ex E B1 B2 X0;refine ⟨_, (Bm _), ?_⟩;rintro e _ ⟨rfl, ex⟩;refine ⟨_, rfl, ex, ?_⟩;obtain ⟨E,B1,B2,X0⟩ := bU ex E B1 B2 X0;refine kM 2 (some 8) func244 ?_;intro _ ex exb;obtain ⟨E,B1,B2,X0⟩ := bU ex E B1 B2 X0;refine ⟨_, (LQ a Sc.L _ Om), ?_⟩;rintro e _ ⟨rfl, ex⟩;refine ⟨_, rfl, ex, ?_⟩;obtain ⟨E,B1,B2,X0⟩ := bU ex E B1 B2 X0;rw [hbor];refine kJ (dst := some 5) 3 rfl Kr (aY rfl) rfl (aT (of_decide_eq_true rfl) av) ?_;refine kJ (dst := some 9) 4 rfl Kr (dA rfl rfl) rfl (aT (of_decide_eq_true rfl) av) ?_;refine kJ (dst := some 10) 5 rfl Kr (dA rfl rfl) rfl (aT (of_decide_eq_true rfl) av) ?_;refine ij ⟨(aT (bM rfl Kr) av), of_decide_eq_true rfl, of_decide_eq_true rfl, (aT (⟨rfl, of_decide_eq_true rfl⟩) av), (aT (aV Kr) av)⟩ Kr ?_;rintro _ _ ex ⟨⟨g3, rfl, Vr⟩, Vt⟩;replace Vt := Vt g3 rfl;obtain ⟨E,B1,B2,X0⟩ := bU ex E B1 B2 X0;refine df 7 Kr ?_;refine eC rfl (ah rfl rfl (by rw [aw]; kernel_rfl) Vr (by rw [aw, aw]) (eu _)) rfl ?_;rintro _ _ ⟨rfl, Vr, cg⟩;replace X0 := X0.aA cg Vt;refine ⟨X0, ?_⟩;replace E := Vw.ext X0;replace B1 := Vq.ext X0;replace B2 := Vs.ext X0;refine zm [8] ?_;refine dW Kr ?_;refine aU ?_;refine ak rfl (fun Vx => ?_) (fun Vx => ?_)
 ·have hlt : ¬ a < Sc.L := fun h => by grind
  rw [hge hlt] at Vr;refine au 2 ?_;refine al ((aW rfl Tn.u rfl (by rw [aw]; kernel_rfl) Vr)) ?_;refine ag (ah rfl rfl (by rw [aw]; kernel_rfl) B2 (by rw [aw, aw]) (eu _)) rfl ?_;rintro _ w6 ⟨rfl, D2, cg⟩;replace E := E.aA cg Vu;refine aU ?_;refine hret rfl D2 (aw _) ?_;exact ⟨rfl, E⟩
 have hlt : a < Sc.L := Classical.byContradiction fun h => by grind
 refine au 4 ?_;refine al ((aW rfl Tn.u rfl (by rw [aw]; kernel_rfl) B1)) ?_;refine ag (ah rfl rfl (by rw [aw]; kernel_rfl) B2 (by rw [aw, aw]) (eu _)) rfl ?_;rintro _ w6 ⟨rfl, D2, cg⟩;replace E := E.aA cg Vu;refine aU ?_;refine hret rfl D2 (aw _) ?_;exact ⟨by rw [Nat.mod_eq_of_lt hlt], E⟩
theorem Qa (x k : Nat) (h : k < 64) : (x : Int) / 2 ^ (min ((k : Int)).toNat IntKind.u64.bits) = ((x / 2 ^ k : Nat) : Int) := by
 have e : min ((k : Int)).toNat IntKind.u64.bits = k := by show min k 64 = k; omega
 grind
namespace Sc
theorem DV : W = 2 ^ 64 := rfl
theorem KH (N b : Nat) : wd N (b / 64) / 2 ^ (b % 64) % 2 = N / 2 ^ b % 2 := by
 unfold wd;have hr : b % 64 < 64 := Nat.mod_lt _ Om
 have e : W = 2 ^ (b % 64) * (2 * 2 ^ (63 - b % 64)) := by rw [DV, ← Nat.mul_assoc, ← Nat.pow_succ, ← Nat.pow_add]; congr 1; omega
 have hb : 2 ^ b = W ^ (b / 64) * 2 ^ (b % 64) := by rw [DV, ← Nat.pow_mul, ← Nat.pow_add]; congr 1; omega
 rw [hb, ← Nat.div_div_eq_div_mul];generalize N / W ^ (b / 64) = x;rw [e, Nat.mod_mul_right_div_self, Nat.mod_mul_right_mod]
theorem Ny (o b : Nat) (hb : b < 2) : wd (o + o) 0 / 2 * 2 = wd (o + o) 0 ∧ wd (o + o + b) 0 = wd (o + o) 0 + b := by unfold wd;simp only [show W = 18446744073709551616 from rfl, Nat.pow_zero, Nat.div_one];omega
theorem GH (o b j : Nat) (hb : b < 2) (hj : j ≠ 0) : wd (o + o + b) j = wd (o + o) j := by
 unfold wd
 obtain ⟨k, rfl⟩ : ∃ k, j = k + 1 := ⟨j - 1, by omega⟩
 have e : W ^ (k + 1) = 2 * (9223372036854775808 * W ^ k) := by rw [Nat.pow_succ, show W = 2 * 9223372036854775808 from rfl, ← Nat.mul_assoc 2, Nat.mul_comm _ (2 * 9223372036854775808)]
 rw [e, ← Nat.div_div_eq_div_mul, ← Nat.div_div_eq_div_mul (o + o)];congr 2;omega
theorem BC (o b : Nat) (hb : b < 2) : bits .or .u64 ((wd (o + o) 0 : Nat) : Int) ((b : Nat) : Int) = ((wd (o + o + b) 0 : Nat) : Int) := by
 have h1 := uD (o + o) 0;have h2 := Ny o b hb;have h3 := (cD (p := wd (o + o) 0) (q := b) h1 Om).2.1;rw [h3, h2.2];congr 1;have e : wd (o + o) 0 = 2 ^ 1 * (wd (o + o) 0 / 2) := by omega
 rw [e, ← Nat.two_pow_add_eq_or_of_lt (by omega : b < 2 ^ 1)]
theorem QQ (o b : Nat) (hb : b < 2) : (ws (wd (o + o))).setIfInBounds (0 + 0) (.int .u64 ((wd (o + o + b) 0 : Nat) : Int)) = ws (wd (o + o + b)) := by
 rw [Nat.zero_add, LB];refine iP fun j _ => ?_;split
 ·grind
 rename_i h; rw [GH o b j hb h]
theorem Jt (N b : Nat) : (N / 2 ^ (b + 1) % L + N / 2 ^ (b + 1) % L + N / 2 ^ b % 2) % L = N / 2 ^ b % L := by
 have e : N / 2 ^ b = N / 2 ^ (b + 1) * 2 + N / 2 ^ b % 2 := by rw [Nat.pow_succ, ← Nat.div_div_eq_div_mul]; omega
 generalize N / 2 ^ (b + 1) = q at *
 generalize N / 2 ^ b % 2 = r at *
 rw [e]
 have h2 : q * 2 + r = L * (q / L * 2) + (q % L + q % L + r) := by
  have h3 := Nat.div_add_mod q L;have h4 : L * (q / L * 2) = (L * (q / L)) * 2 := by rw [Nat.mul_assoc]
  rw [h4]; omega
 rw [h2, Nat.mul_add_mod_self_left]
theorem Df : 0 < L := by rw [T5]; omega
end Sc
theorem qL (A : Oa) (n c N : Nat) (w : World) (H : Ns .u64 w A n (Fp.fn n (Sc.wd N))) (hN : N < 2 ^ (64 * n)) (hn : n ≤ 1000) :
  Ct 233 #[.slice A n c] w fun e w' => e = .returned (.agg (ws (Sc.wd (N % Sc.L)))) ∧ Ext w w' := by
 have E := Ext.refl w;have hLp := Sc.Df;refine aK (s := 4) 35 func233 rfl rfl rfl underlying141 rfl Kr rfl ?_;intro _ hret;refine aU ?_;intro w1 g2 (B2 : ao _ _ _ (ws z4)) Vy ex;replace E := E.ext ex;refine aU ?_;refine fY 0 (fun n' L wr => ∃ (b g3 : Nat), L = [(0, .slice A n c), (2, .pointer (some ⟨g2, 0, none⟩)), (3, .pointer (some ⟨g3, 0, none⟩)), (4, .int .i64 (b : Int))] ∧ n' = 1 + b ∧ (b ≤ 64 * n ∧ w.heap.size ≤ g3 ∧ g2 < g3 ∧ Ext w wr ∧ ao wr g2 141 (ws z4) ∧ ao wr g3 139 (ws (Sc.wd (N / 2 ^ b % Sc.L))))) rfl ?_ ?_
 ·rintro G n' L wr ⟨b, g3, rfl, rfl, _, Vu, Vv, E, B2, B3⟩ Vq;refine au 3 ?_;refine al (fI rfl rfl (show IntKind.i64.wrap ((b : Int) - 1) = (b : Int) - 1 from bj Om Om)) ?_;refine aU ?_;refine ak rfl (fun Vw => ?_) (fun Vw => ?_)
  ·refine au 1 ?_
   obtain ⟨k, rfl⟩ : ∃ k, b = k + 1 := ⟨b - 1, by omega⟩
   rw [show (((k + 1 : Nat) : Int) - 1) = (k : Int) by omega];have ho := Nat.mod_lt (N / 2 ^ (k + 1)) hLp;have hst := Sc.Jt N k;have hbt := Sc.KH N k
   obtain ⟨o, hoe⟩ : ∃ o, o = N / 2 ^ (k + 1) % Sc.L := ⟨_, rfl⟩
   rw [← hoe] at B3 ho hst;have Vs : N / 2 ^ k % 2 < 2 := Nat.mod_lt _ Om;refine au 1 ?_;refine al ((aW rfl Tn.u rfl (by rw [aw]; kernel_rfl) B3)) ?_;refine al ((aW rfl Tn.u rfl (by rw [aw]; kernel_rfl) B3)) ?_;refine aC func235 rfl (zq o o _) ?_;rintro e _ ⟨rfl, ex⟩;obtain ⟨E,B2,B3⟩ := bF ex E B2 B3;refine au 4 ?_;refine ag (ah rfl rfl (by rw [aw]; kernel_rfl) B3 (by rw [aw, aw]) (eu _)) rfl ?_;rintro _ _ ⟨rfl, D3, cg⟩;replace E := E.aA cg Om; replace B2 := B2.aA cg Om; replace B3 := D3;refine aU ?_;refine az Kr 14 rfl ?_; intro Vz ex VA;obtain ⟨E,B2,B3⟩ := bF ex E B2 B3;obtain ⟨b1, Vx, x, rfl, hx, _, hcx⟩ := (H.ext E).get (i := k / 64) Om;have Vt := hx.out;rw [Fp.sP _ Om] at Vt;subst Vt;have hxd := Nat.lt_of_le_of_lt (Nat.div_le_self (Sc.wd N (k / 64)) (2 ^ (k % 64))) (Sc.uD N (k / 64));refine dg 0 rfl (fun _ => bS rfl rfl Tn.u Kr (j := 0) rfl Om) ?_;refine my 1 rfl (af rfl Tn.u rfl (B3.get (kV _ rfl Om))) ?_;refine zm [2, 3] ?_;refine dg 4 rfl (fun _ => dG rfl rfl Om (show IntKind.i64.wrap ((k : Int).tdiv 64) = ((k / 64 : Nat) : Int) from bD rfl Om)) ?_;refine dg 5 rfl (fun _ => aB rfl rfl Tn.u Kr (j := k / 64) rfl Om) ?_;refine my 6 rfl (af rfl Tn.u rfl hcx) ?_;refine zm [7] ?_;refine dg 8 rfl (fun _ => ck rfl rfl Om (show ((k : Int).tmod 64) = ((k % 64 : Nat) : Int) from rfl)) ?_;refine dg 9 rfl (fun _ => cB rfl rfl Om (Qa _ _ (Nat.mod_lt _ Om))) ?_;refine dg 10 rfl (fun _ => cV rfl rfl (show bits .and .u64 _ 1 = ((N / 2 ^ k % 2 : Nat) : Int) by rw [NW _ hxd, hbt])) ?_;refine dg 11 rfl (fun _ => jN rfl rfl (Sc.BC o _ Vs)) ?_;refine dg 12 rfl (fun _ => bS rfl rfl Tn.u Kr (j := 0) rfl Om) ?_;refine aL 13 Kr ?_; refine aQ rfl (aq rfl rfl rfl Kr B3 (by rw [aw]; omega)) rfl ?_;rintro _ _ ⟨rfl, D3, cg⟩;refine ⟨.inl rfl, ?_⟩;rw [Sc.QQ o _ Vs] at D3; replace E := E.aA cg Om; replace B2 := B2.aA cg Om; replace B3 := D3;refine au 5 ?_;refine al ((aW rfl Tn.u rfl (by rw [aw]; kernel_rfl) B3)) ?_;refine aC func236 rfl (vk _ _ Om) ?_;rintro e _ ⟨rfl, ex⟩;refine au 1 ?_;obtain ⟨E,B2,B3⟩ := bF ex E B2 B3;rw [hst];refine ag (ah rfl rfl (by rw [aw]; kernel_rfl) B3 (by rw [aw, aw]) (eu _)) rfl ?_;rintro _ _ ⟨rfl, D3, cg⟩;replace E := E.aA cg Om; replace B2 := B2.aA cg Om; replace B3 := D3;refine aU ?_;refine cz ?_;refine Vq _ _ ⟨k, g3, rfl, rfl, by omega, Vu, Vv, E, B2, B3⟩ Om Ls
  obtain rfl : b = 0 := by omega
  rw [Nat.pow_zero, Nat.div_one] at B3;refine au 4 ?_;refine al ((aW rfl Tn.u rfl (by rw [aw]; kernel_rfl) B3)) ?_;refine al (ar rfl (cells := ws (Sc.wd (N % Sc.L))) Kr) ?_;refine ag (ah rfl rfl (by rw [aw]; kernel_rfl) B2 (by rw [aw, aw]) (eu _)) rfl ?_;rintro _ _ ⟨rfl, D2, cg⟩;replace E := E.aA cg Om;refine aU ?_;refine bW ?_;refine hret rfl D2 (aw _) ?_;exact ⟨rfl, E⟩
 intro G Vq;have VB := B2.lt;refine aU ?_;intro w2 g3 (B3 : ao _ _ _ (ws z4)) VC ex;obtain ⟨E,B2⟩ := aZ ex E B2;replace B3 := B3.congr (show _ = ws (Sc.wd (N / 2 ^ (64 * n) % Sc.L)) by rw [Nat.div_eq_of_lt hN, Nat.zero_mod]; exact iP fun j _ => by unfold z4 Sc.wd; simp);refine au 6 ?_;refine al (cL rfl rfl (show IntKind.i64.wrap (64 * (n : Int)) = ((64 * n : Nat) : Int) from bD Om Om)) ?_;refine au 3 ?_;refine er ?_; intro VD Vr;refine iq ?_;refine ae (Vr ?_);exact Vq _ _ ⟨64 * n, g3, rfl, rfl, by omega, by omega, by omega, E, B2, B3⟩ Ls
end
open Go.RowKit
attribute [local irreducible] Y Ef WL WC WK WQ WM cv
def bt (f : Nat → Nat) : Array Value := aM .u8 (Fp.fn 32 f)
theorem Nr (f : Nat → Nat) : (bt f).size = 32 := by rw [bt, bu, Fp.eT]
theorem Pt (f : Nat → Nat) (hi : i = j) (h : j < 32) : (bt f)[i]? = some (.int .u8 (f j : Nat)) := by subst hi; rw [bt, dL _ _ _ (by rw [Fp.eT]; exact h), Fp.sP f h]
theorem QX (f : Nat → Nat) (i x : Nat) : (bt f).setIfInBounds i (.int .u8 (x : Int)) = bt (fun j => if j = i then x else f j) := by rw [bt, gD, Fp.AI, bt]
theorem oy {f g : Nat → Nat} (h : ∀ j, j < 32 → f j = g j) : bt f = bt g := by unfold bt; rw [Fp.oV h]
theorem bt_le (x : Nat) : bt (fun j => x / 256 ^ j % 256) = dd (Fp.le 32 x) := by unfold bt aM dd Fp.fn Fp.le;rw [List.map_map, List.map_map];congr 1;apply List.map_congr_left;intro j _;simp only [Function.comp_apply, iv, bv, UInt8.toNat_ofNat'];congr 2;omega
theorem UA (x k : Nat) (hk : k ≤ 64) : (x : Int) / 2 ^ (min (k : Int).toNat IntKind.u64.bits) = ((x / 2 ^ k : Nat) : Int) := by
 have e : min (k : Int).toNat IntKind.u64.bits = k := by have : IntKind.u64.bits = 64 := rfl;omega
 rw [e, show (2 : Int) ^ k = ((2 ^ k : Nat) : Int) from by rw [Int.natCast_pow]; rfl];exact (Int.natCast_ediv _ _).symm
theorem Uq (b s : Nat) (hs : s < 8) (hb : b * 2 ^ s < 256) : IntKind.u8.wrap ((b : Int) * 2 ^ (min (s : Int).toNat IntKind.u8.bits)) = ((b * 2 ^ s : Nat) : Int) := by
 have e : min (s : Int).toNat IntKind.u8.bits = s := by have : IntKind.u8.bits = 8 := rfl;omega
 rw [e, show (2 : Int) ^ s = ((2 ^ s : Nat) : Int) from by rw [Int.natCast_pow]; rfl, ← Int.natCast_mul, IntKind.wrap_u8'];omega
theorem Vc (old b s : Nat) (ho : old < 2 ^ s) (h : old + b * 2 ^ s < 256) : bits .or .u8 (old : Int) ((b * 2 ^ s : Nat) : Int) = ((old + b * 2 ^ s : Nat) : Int) := by have h2 := (bH (p := old) (q := b * 2 ^ s) Om Om).2.1;rw [h2, Nat.or_comm, Nat.mul_comm b, ← Nat.two_pow_add_eq_or_of_lt ho, Nat.add_comm]
theorem kv (ha : Fe cs a) (w : World) :
  Ct 155 #[.agg cs] w fun e w' => ∃ g, e = .returned (.slice (some ⟨g, 0, none⟩) 32 32) ∧ w.heap.size ≤ g ∧ ao w' g 5 (dd (Fp.le 32 a)) ∧ Ext w w' := by
 have hal := ha.lt;obtain ⟨f, rfl, hf, hfa⟩ := ha;refine ai 44 Tryz.func155 rfl rfl rfl rfl ?_;intro _ hret;refine aU ?_;intro w1 g1 (B1 : ao _ _ _ (fe f)) Vu ex;have E1 := ex;refine aU ?_;refine aC Tryz.func209 rfl (mM f _ hf) ?_;rintro e _ ⟨rfl, ex⟩;refine au 1 ?_;rw [hfa]; have E2 := E1.ext ex; have C1 := B1.ext ex;refine ag (ah rfl rfl (by rw [aj]; kernel_rfl) C1 (by rw [aj, aj]) (bC _)) rfl ?_;rintro _ _ ⟨rfl, B3, cg⟩;have E3 := E2.aA cg Vu;refine aU ?_;refine ag (dD (n := 32) (z := .int .u8 0) (bytes := 1) rfl rfl Tn.u Kr rfl rfl rfl rfl Om Om) rfl ?_;rintro _ w4 ⟨g2, rfl, B4, Vv, ex⟩;have E4 := E3.ext ex; have C3 := B3.ext ex; have Vq : w.heap.size ≤ g2 := Nat.le_trans E3.size Vv; replace B4 : ao w4 g2 5 (bt (fun j => a % 2 ^ (51 * 0) / 256 ^ j % 256)) := B4.congr (by rw [oy (g := fun _ => 0) fun j _ => by rw [Nat.mul_zero, Nat.pow_zero, Nat.mod_one, Nat.zero_div]]; rfl);refine aU ?_;refine aD (fun n' L wr => ∃ i : Nat, L = [(3, .slice (some ⟨g2, 0, none⟩) 32 32), (12, .agg (fe (Fp.gp a))), (13, .int .i64 (i : Int))] ∧ n' = 5 - i ∧ (i ≤ 5 ∧ Ext w wr ∧ ao wr g2 5 (bt (fun j => a % 2 ^ (51 * i) / 256 ^ j % 256)))) _ _ ⟨0, rfl, rfl, by omega, E4, B4⟩ Ls ?_;rintro _ n' L wr ⟨i, rfl, rfl, _, F, C2⟩ Vw;refine aU ?_;refine ak rfl (fun Vx => ?_) (fun Vx => ?_)
 ·refine au 7 ?_;refine al (po rfl rfl Tn.u Tn.u rfl Kr rfl Om (dR _ rfl Om)) ?_;refine au 7 ?_;refine al (cL rfl rfl (bD (n := 51 * i) Om Om)) ?_;refine aU ?_;refine aD (fun n' L wq => ∃ k : Nat, L = [(3, .slice (some ⟨g2, 0, none⟩) 32 32), (5, .int .u64 ((Fp.gp a i : Nat) : Int)), (6, .int .i64 ((51 * i : Nat) : Int)), (12, .agg (fe (Fp.gp a))), (13, .int .i64 (i : Int)), (19, .int .i64 (k : Int))] ∧ n' = 51 - k ∧ (k ≤ 51 ∧ Ext w wq ∧ ao wq g2 5 (bt (fun j => a % 2 ^ (51 * i + k) / 256 ^ j % 256)))) _ _ ⟨0, rfl, rfl, by omega, F, C2⟩ Ls ?_;rintro _ n' L wq ⟨k, rfl, rfl, _, G, K2⟩ Vy;refine aU ?_;refine ak rfl (fun Vz => ?_) (fun Vz => ?_)
  ·refine aU ?_
   obtain ⟨T, hT⟩ : ∃ T, T = 51 * i + k := ⟨_, rfl⟩
   rw [← hT] at K2;have hTl : T < 255 := by omega
   have hlim := Fp.DS a i;have hx := Nat.mod_lt a (Nat.pow_pos (n := T) (show 0 < 2 by omega));have hbit := Fp.Jj a i k Om;rw [← hT] at hbit
   obtain ⟨Vr, Vs⟩ : ∃ b, b = Fp.gp a i / 2 ^ k % 2 := ⟨_, rfl⟩
   have Vt : Vr ≤ 1 := by omega
   have hlt := Fp.Dy hx; have VC := Fp.CR T;have hm : Vr * 2 ^ (T % 8) ≤ 1 * 2 ^ (T % 8) := Nat.mul_le_mul_right _ Vt;have hdl : Fp.gp a i / 2 ^ k < 18446744073709551616 := Nat.lt_of_le_of_lt (Nat.div_le_self _ _) Om;refine az Kr 20 rfl ?_; intro VA ex VB;replace G := G.ext ex; replace K2 := K2.ext ex;refine zm [0, 1, 2] ?_;refine dg 3 rfl (fun _ => aN rfl rfl (bD (n := T) Om Om)) ?_;refine dg 4 rfl (fun _ => dG rfl rfl Om (show IntKind.i64.wrap ((T : Int).tdiv 8) = ((T / 8 : Nat) : Int) from bD rfl Om)) ?_;refine zm [5] ?_;refine my 6 rfl (af rfl Tn.u rfl (K2.get (v := .int .u8 ((a % 2 ^ T / 256 ^ (T / 8) : Nat) : Int)) (by rw [Nat.zero_add, Pt _ rfl Om, Nat.mod_eq_of_lt (a := a % 2 ^ T / 256 ^ (T / 8)) Om]))) ?_;refine zm [7, 8] ?_;refine dg 9 rfl (fun _ => cB rfl rfl Om (UA _ k Om)) ?_;refine dg 10 rfl (fun _ => cV rfl rfl (show bits .and .u64 ((Fp.gp a i / 2 ^ k : Nat) : Int) 1 = (Vr : Int) by rw [Vs]; exact NW _ hdl)) ?_;refine my 11 rfl (bo rfl Tn.u Tn.u (IntWalk.u8_in _ ⟨by omega, by omega⟩)) ?_;refine zm [12, 13] ?_;refine dg 14 rfl (fun _ => aN rfl rfl (bD (n := T) Om Om)) ?_;refine dg 15 rfl (fun _ => ck rfl rfl Om (show ((T : Int).tmod 8 = ((T % 8 : Nat) : Int)) from rfl)) ?_;refine dg 16 rfl (fun _ => gd rfl rfl Om (Uq Vr (T % 8) Om Om)) ?_;refine dg 17 rfl (fun _ => jN rfl rfl (Vc _ _ _ hlt Om)) ?_;refine zm [18] ?_;refine aL 19 Kr ?_; refine aQ rfl (aq rfl rfl rfl Kr K2 (by rw [Nr]; omega)) rfl ?_;rintro _ _ ⟨rfl, B5, cg⟩;refine ⟨.inl rfl, ?_⟩;rw [Nat.zero_add, QX] at B5; have G5 := G.aA cg Vq;refine au 8 ?_;refine ae ?_
   refine Vy _ _ ⟨k + 1, rfl, rfl, by omega, G5, B5.congr (oy fun j _ => by
    rw [show 51 * i + (k + 1) = T + 1 by omega, Nat.mod_pow_succ, ← hbit, ← Vs, Nat.mul_comm (2 ^ T)]
    exact Fp.Hs j hx Vt)⟩ Om Ls
  refine au 10 ?_;refine ae ?_;refine Vw _ _ ⟨i + 1, rfl, rfl, by omega, G, K2.congr (oy fun j _ => by rw [show 51 * (i + 1) = 51 * i + k by omega])⟩ Om Ls
 refine aU ?_;refine hret rfl ?_;obtain rfl : i = 5 := by omega
 refine ⟨g2, rfl, Vq, C2.congr ?_, F⟩;rw [← bt_le];refine oy fun j _ => ?_;rw [Nat.mod_eq_of_lt (show a < 2 ^ (51 * 5) by unfold Fp.p at hal; omega)]
end
open Go.RowKit Tryz
attribute [local irreducible] Y Ef WL WC WK WQ WM cv
theorem j6 {a : Fp.F} (ha : FE cs a) (w : World) :
  Ct 145 #[.agg cs] w fun e w' => ∃ ds, e = .returned (.agg ds) ∧ FE ds (Fp.inv a) ∧ Ext w w' := by
 have hnum : Fp.num (Tj 235 127) = Fp.p - 2 := by decide +kernel
 refine aK (s := 5) 6 func145 rfl rfl rfl underlying134 rfl Kr rfl ?_;intro _ hret;refine aU ?_;intro w1 g1 (B1 : ao _ _ _ (cs)) Vs ex;have E1 := ex;refine aU ?_;intro w2 g2 (B2 : ao _ _ _ (fe (fun _ => 0))) Vr ex;have E2 := E1.ext ex; replace B1 := B1.ext ex; have Vq : w.heap.size ≤ g2 := Nat.le_trans E1.size Vr;refine aU ?_;refine az Kr 4 rfl ?_; intro Vt ex Vu;obtain ⟨B1,B2,E2⟩ := bF ex B1 B2 E2;refine zm [0] ?_;refine bz 1 rfl func204 rfl (iG 235 127 _) ?_;rintro e _ ⟨_, rfl, H3, ex⟩;obtain ⟨B2,E2⟩ := aZ ex B2 E2;refine aU ?_;refine bz 2 rfl func203 rfl (iZ ha _ 32 32 _ _ H3 Om) ?_;rintro e _ ⟨ds, rfl, D, ex⟩;refine aU ?_;obtain ⟨B2,E2⟩ := aZ ex B2 E2;rw [hnum] at D;refine aL 3 Kr ?_; refine aQ rfl (ah rfl rfl (by rw [D.size]; kernel_rfl) B2 (by rw [aj, D.size]) D.one) rfl ?_;rintro _ _ ⟨rfl, B5, cg⟩;refine ⟨.inl rfl, ?_⟩;have E5 := E2.aA cg Vq;refine aU ?_;refine hret rfl B5 D.size ?_;exact ⟨_, rfl, D, E5⟩
theorem Gg {a : Fp.F} (ha : FE cs a) (w : World) :
  Ct 207 #[.agg cs] w fun e w' => ∃ ds, e = .returned (.tuple #[.agg ds, .bool (decide (Fp.tT a))]) ∧ FE ds (if Fp.tT a then Fp.root a else 0) ∧ Ext w w' := by
 have VQ : Fp.num (Tj 254 15) = Fp.e8 := by decide +kernel
 have VR : Fp.num (Tj 251 31) = Fp.nu := by decide +kernel
 have hso := Fp.ya (a := a);refine du (s := 5) 29 func207 rfl rfl rfl underlying134 rfl Kr rfl ?_;intro _ hret;refine au 2 ?_;refine ag (nA (cs := cs) rfl rfl) rfl ?_;rintro _ _ ⟨_, rfl, B1, _, ex⟩;have E1 := ex; have V9 := B1.lt;refine ag (dJ (Z := fe (fun _ => 0)) Kr) rfl ?_;rintro _ _ ⟨g2, rfl, B2, V6, ex⟩;have E2 := E1.ext ex; replace B1 := B1.ext ex; have Vs : w.heap.size ≤ g2 := Nat.le_trans E1.size V6;refine aU ?_;refine az Kr 5 rfl ?_; intro Wa ex Wb;obtain ⟨B1,B2,E2⟩ := bF ex B1 B2 E2;refine zm [0] ?_;refine fR 1 3 Kr ?_ ?_
 ·skip;refine eW rfl func204 rfl rfl rfl (iG 254 15 _) rfl ?_;rintro e w3 ⟨g3, rfl, H3, ex⟩;obtain ⟨B1,B2,E2⟩ := bF ex B1 B2 E2;refine aU ?_;refine fR 2 3 Kr ?_ ?_
  ·skip;refine eW rfl func203 rfl rfl rfl (iZ ha _ 32 32 _ _ H3 Om) rfl ?_;rintro e w4 ⟨ds, rfl, D, ex⟩;refine au 1 ?_;obtain ⟨B1,B2,E2⟩ := bF ex B1 B2 E2;rw [VQ] at D; replace D : FE ds (Fp.bY a) := D;have VG := E2; have VS := B2.lt;refine aL 3 Kr ?_; refine aQ rfl (dJ (Z := fe (fun _ => 0)) Kr) rfl ?_;rintro _ w5 ⟨g5, rfl, B5, VT, ex⟩;refine ⟨.inr ex, ?_⟩;obtain ⟨B1,B2,E2⟩ := bF ex B1 B2 E2;have Vt : w.heap.size ≤ g5 := by have := VG.size; omega
   refine aL 4 Kr ?_; refine aQ rfl (ah rfl rfl (by rw [D.size]; kernel_rfl) B5 (by rw [aj, D.size]) D.one) rfl ?_;rintro _ w6 ⟨rfl, B6, cg⟩;refine ⟨.inl rfl, ?_⟩;replace B1 := B1.aA cg Om; replace B2 := B2.aA cg Om; have E6 := E2.aA cg Vt;refine aU ?_;refine az Kr 5 rfl ?_; intro VU ex VV;obtain ⟨B1,B2,E6,B6⟩ := bU ex B1 B2 E6 B6;refine zm [0, 2] ?_;refine bz 1 rfl func205 rfl (cx D _) ?_;rintro e w7 ⟨d7, rfl, D7, ex⟩;obtain ⟨B1,B2,E6,B6⟩ := bU ex B1 B2 E6 B6;refine aU ?_;refine bz 3 rfl func242 rfl (fu D7 ha _) ?_;rintro e w8 ⟨rfl, ex⟩;obtain ⟨B1,B2,E6,B6⟩ := bU ex B1 B2 E6 B6;refine zm [4] ?_;refine bB rfl (fun Vz => ?_) (fun Vz => ?_)
   ·skip;have hq : ¬ Fp.bY a * Fp.bY a = a := by simpa using Vz
    refine az Kr 6 rfl ?_; intro VW ex VX;obtain ⟨B1,B2,E6,B6⟩ := bU ex B1 B2 E6 B6;refine zm [0] ?_;refine bz 1 rfl func143 rfl (dv 2 _ Om) ?_;rintro e w9 ⟨d9, rfl, D9, ex⟩;obtain ⟨B1,B2,E6,B6⟩ := bU ex B1 B2 E6 B6;refine aU ?_;refine bz 2 rfl func204 rfl (iG 251 31 _) ?_;rintro e VY ⟨VZ, rfl, VH, ex⟩;obtain ⟨B1,B2,E6,B6⟩ := bU ex B1 B2 E6 B6;refine aU ?_;refine bz 3 rfl func203 rfl (iZ D9 _ 32 32 _ _ VH Om) ?_;rintro e V0 ⟨d11, rfl, VF, ex⟩;refine aU ?_;obtain ⟨B1,B2,E6,B6⟩ := bU ex B1 B2 E6 B6;rw [VR, Fp.BG] at VF;refine bz 4 rfl func144 rfl (bQ D VF _) ?_;rintro e V4 ⟨d12, rfl, Vr, ex⟩;obtain ⟨B1,B2,E6,B6⟩ := bU ex B1 B2 E6 B6;refine aU ?_;refine aL 5 Kr ?_; refine aQ rfl (ah rfl rfl (by rw [Vr.size]; kernel_rfl) B6 (by rw [D.size, Vr.size]) Vr.one) rfl ?_;rintro _ V5 ⟨rfl, VI, cg⟩;refine ⟨.inl rfl, ?_⟩;replace B1 := B1.aA cg Om; replace B2 := B2.aA cg Om; replace E6 := E6.aA cg Vt; replace B6 := VI;refine aU ?_;refine az Kr 5 rfl ?_; intro VJ ex VK;obtain ⟨B1,B2,E6,B6⟩ := bU ex B1 B2 E6 B6;refine zm [0, 2] ?_;refine bz 1 rfl func205 rfl (cx Vr _) ?_;rintro e VL ⟨d14, rfl, VA, ex⟩;obtain ⟨B1,B2,E6,B6⟩ := bU ex B1 B2 E6 B6;refine aU ?_;refine bz 3 rfl func242 rfl (fu VA ha _) ?_;rintro e VM ⟨rfl, ex⟩;obtain ⟨B1,B2,E6,B6⟩ := bU ex B1 B2 E6 B6;refine zm [4] ?_;refine bB rfl (fun Vu => ?_) (fun Vu => ?_)
    ·have Vy : ¬ (Fp.bY a * Fp.im) * (Fp.bY a * Fp.im) = a := by simpa using Vu
     have hns : ¬ Fp.tT a := fun hs => by rcases hso hs with h | h <;> contradiction
     refine au 2 ?_;refine al (ar rfl (cells := fe (fun _ => 0)) Kr) ?_;refine ag (ah rfl rfl Kr B2 rfl (bC _)) rfl ?_;rintro _ jr ⟨rfl, VB, cg⟩;have VC := E6.aA cg Vs;refine aU ?_;refine hret rfl rfl VB (aj _) ?_;exact ⟨_, by rw [decide_eq_false hns], by rw [if_neg hns]; exact FE.zero, VC⟩
    have Vy : (Fp.bY a * Fp.im) * (Fp.bY a * Fp.im) = a := by simpa using Vu
    have hns : Fp.tT a := Fp.lN Vy;refine aU ?_;refine aC func156 rfl (iW Vr _) ?_;rintro e VN ⟨rfl, ex⟩;obtain ⟨B1,B2,E6,B6⟩ := bU ex B1 B2 E6 B6;refine aU ?_;refine ak rfl (fun Vv => ?_) (fun Vv => ?_)
    ·refine aU ?_;refine aC func208 rfl (iN Vr _) ?_;rintro e VO ⟨d18, rfl, Vq, ex⟩;obtain ⟨B1,B2,E6,B6⟩ := bU ex B1 B2 E6 B6;refine au 1 ?_;refine ag (ah rfl rfl (by rw [Vq.size]; kernel_rfl) B6 (by rw [Vr.size, Vq.size]) Vq.one) rfl ?_;rintro _ VP ⟨rfl, VD, cg⟩;replace B1 := B1.aA cg Om; replace B2 := B2.aA cg Om; replace E6 := E6.aA cg Vt; replace B6 := VD;refine au 5 ?_;refine ag (ah rfl rfl (by rw [Vq.size]; kernel_rfl) B2 (by rw [aj, Vq.size]) Vq.one) rfl ?_;rintro _ VE ⟨rfl, Vw, cg⟩;have Vx := E6.aA cg Vs;refine aU ?_;refine hret rfl rfl Vw Vq.size ?_;exact ⟨_, by rw [decide_eq_true hns], by rw [if_pos hns]; exact Vq.congr (by unfold Fp.root; simp only [hq, ↓reduceIte, Vv]), Vx⟩
    refine au 5 ?_;refine ag (ah rfl rfl (by rw [Vr.size]; kernel_rfl) B2 (by rw [aj, Vr.size]) Vr.one) rfl ?_;rintro _ VE ⟨rfl, Vw, cg⟩;have Vx := E6.aA cg Vs;refine aU ?_;refine hret rfl rfl Vw Vr.size ?_;exact ⟨_, by rw [decide_eq_true hns], by rw [if_pos hns]; exact Vr.congr (by unfold Fp.root; simp only [hq, ↓reduceIte, Vv]), Vx⟩
   have hq : Fp.bY a * Fp.bY a = a := by simpa using Vz
   refine aU ?_;refine az Kr 5 rfl ?_; intro VJ ex VK;obtain ⟨B1,B2,E6,B6⟩ := bU ex B1 B2 E6 B6;refine zm [0, 2] ?_;refine bz 1 rfl func205 rfl (cx D _) ?_;rintro e VL ⟨d14, rfl, VA, ex⟩;obtain ⟨B1,B2,E6,B6⟩ := bU ex B1 B2 E6 B6;refine aU ?_;refine bz 3 rfl func242 rfl (fu VA ha _) ?_;rintro e VM ⟨rfl, ex⟩;obtain ⟨B1,B2,E6,B6⟩ := bU ex B1 B2 E6 B6;refine zm [4] ?_;refine bB rfl (fun Vu => ?_) (fun Vu => ?_)
   ·have Vy : ¬ (Fp.bY a) * (Fp.bY a) = a := by simpa using Vu
    have hns : ¬ Fp.tT a := fun hs => by rcases hso hs with h | h <;> contradiction
    refine au 2 ?_;refine al (ar rfl (cells := fe (fun _ => 0)) Kr) ?_;refine ag (ah rfl rfl Kr B2 rfl (bC _)) rfl ?_;rintro _ jr ⟨rfl, VB, cg⟩;have VC := E6.aA cg Vs;refine aU ?_;refine hret rfl rfl VB (aj _) ?_;exact ⟨_, by rw [decide_eq_false hns], by rw [if_neg hns]; exact FE.zero, VC⟩
   have Vy : (Fp.bY a) * (Fp.bY a) = a := by simpa using Vu
   have hns : Fp.tT a := Fp.lN Vy;refine aU ?_;refine aC func156 rfl (iW D _) ?_;rintro e VN ⟨rfl, ex⟩;obtain ⟨B1,B2,E6,B6⟩ := bU ex B1 B2 E6 B6;refine aU ?_;refine ak rfl (fun Vv => ?_) (fun Vv => ?_)
   ·refine aU ?_;refine aC func208 rfl (iN D _) ?_;rintro e VO ⟨d18, rfl, Vq, ex⟩;obtain ⟨B1,B2,E6,B6⟩ := bU ex B1 B2 E6 B6;refine au 1 ?_;refine ag (ah rfl rfl (by rw [Vq.size]; kernel_rfl) B6 (by rw [D.size, Vq.size]) Vq.one) rfl ?_;rintro _ VP ⟨rfl, VD, cg⟩;replace B1 := B1.aA cg Om; replace B2 := B2.aA cg Om; replace E6 := E6.aA cg Vt; replace B6 := VD;refine au 5 ?_;refine ag (ah rfl rfl (by rw [Vq.size]; kernel_rfl) B2 (by rw [aj, Vq.size]) Vq.one) rfl ?_;rintro _ VE ⟨rfl, Vw, cg⟩;have Vx := E6.aA cg Vs;refine aU ?_;refine hret rfl rfl Vw Vq.size ?_;exact ⟨_, by rw [decide_eq_true hns], by rw [if_pos hns]; exact Vq.congr (by unfold Fp.root; simp only [hq, ↓reduceIte, Vv]), Vx⟩
   refine au 5 ?_;refine ag (ah rfl rfl (by rw [D.size]; kernel_rfl) B2 (by rw [aj, D.size]) D.one) rfl ?_;rintro _ VE ⟨rfl, Vw, cg⟩;have Vx := E6.aA cg Vs;refine aU ?_;refine hret rfl rfl Vw D.size ?_;exact ⟨_, by rw [decide_eq_true hns], by rw [if_pos hns]; exact D.congr (by unfold Fp.root; simp only [hq, ↓reduceIte, Vv]), Vx⟩
  skip;have VG := E2; have VS := B2.lt;refine aQ rfl (dJ (Z := fe (fun _ => 0)) Kr) rfl ?_;rintro _ w5 ⟨g5, rfl, B5, VT, ex⟩;refine ⟨.inr ex, ?_⟩;obtain ⟨B1,B2,E2,H3⟩ := bU ex B1 B2 E2 H3;have Vt : w.heap.size ≤ g5 := by have := VG.size; omega
  refine bz 2 rfl func203 rfl (iZ ha _ 32 32 _ _ H3 Om) ?_;rintro e w4 ⟨ds, rfl, D, ex⟩;refine au 1 ?_;obtain ⟨B1,B2,E2,B5⟩ := bU ex B1 B2 E2 B5;rw [VQ] at D; replace D : FE ds (Fp.bY a) := D;refine aL 4 Kr ?_; refine aQ rfl (ah rfl rfl (by rw [D.size]; kernel_rfl) B5 (by rw [aj, D.size]) D.one) rfl ?_;rintro _ w6 ⟨rfl, B6, cg⟩;refine ⟨.inl rfl, ?_⟩;replace B1 := B1.aA cg Om; replace B2 := B2.aA cg Om; have E6 := E2.aA cg Vt;refine aU ?_;refine az Kr 5 rfl ?_; intro VU ex VV;obtain ⟨B1,B2,E6,B6⟩ := bU ex B1 B2 E6 B6;refine zm [0, 2] ?_;refine bz 1 rfl func205 rfl (cx D _) ?_;rintro e w7 ⟨d7, rfl, D7, ex⟩;obtain ⟨B1,B2,E6,B6⟩ := bU ex B1 B2 E6 B6;refine aU ?_;refine bz 3 rfl func242 rfl (fu D7 ha _) ?_;rintro e w8 ⟨rfl, ex⟩;obtain ⟨B1,B2,E6,B6⟩ := bU ex B1 B2 E6 B6;refine zm [4] ?_;refine bB rfl (fun Vz => ?_) (fun Vz => ?_)
  ·skip;have hq : ¬ Fp.bY a * Fp.bY a = a := by simpa using Vz
   refine az Kr 6 rfl ?_; intro VW ex VX;obtain ⟨B1,B2,E6,B6⟩ := bU ex B1 B2 E6 B6;refine zm [0] ?_;refine bz 1 rfl func143 rfl (dv 2 _ Om) ?_;rintro e w9 ⟨d9, rfl, D9, ex⟩;obtain ⟨B1,B2,E6,B6⟩ := bU ex B1 B2 E6 B6;refine aU ?_;refine bz 2 rfl func204 rfl (iG 251 31 _) ?_;rintro e VY ⟨VZ, rfl, VH, ex⟩;obtain ⟨B1,B2,E6,B6⟩ := bU ex B1 B2 E6 B6;refine aU ?_;refine bz 3 rfl func203 rfl (iZ D9 _ 32 32 _ _ VH Om) ?_;rintro e V0 ⟨d11, rfl, VF, ex⟩;refine aU ?_;obtain ⟨B1,B2,E6,B6⟩ := bU ex B1 B2 E6 B6;rw [VR, Fp.BG] at VF;refine bz 4 rfl func144 rfl (bQ D VF _) ?_;rintro e V4 ⟨d12, rfl, Vr, ex⟩;obtain ⟨B1,B2,E6,B6⟩ := bU ex B1 B2 E6 B6;refine aU ?_;refine aL 5 Kr ?_; refine aQ rfl (ah rfl rfl (by rw [Vr.size]; kernel_rfl) B6 (by rw [D.size, Vr.size]) Vr.one) rfl ?_;rintro _ V5 ⟨rfl, VI, cg⟩;refine ⟨.inl rfl, ?_⟩;replace B1 := B1.aA cg Om; replace B2 := B2.aA cg Om; replace E6 := E6.aA cg Vt; replace B6 := VI;refine aU ?_;refine az Kr 5 rfl ?_; intro VJ ex VK;obtain ⟨B1,B2,E6,B6⟩ := bU ex B1 B2 E6 B6;refine zm [0, 2] ?_;refine bz 1 rfl func205 rfl (cx Vr _) ?_;rintro e VL ⟨d14, rfl, VA, ex⟩;obtain ⟨B1,B2,E6,B6⟩ := bU ex B1 B2 E6 B6;refine aU ?_;refine bz 3 rfl func242 rfl (fu VA ha _) ?_;rintro e VM ⟨rfl, ex⟩;obtain ⟨B1,B2,E6,B6⟩ := bU ex B1 B2 E6 B6;refine zm [4] ?_;refine bB rfl (fun Vu => ?_) (fun Vu => ?_)
   ·have Vy : ¬ (Fp.bY a * Fp.im) * (Fp.bY a * Fp.im) = a := by simpa using Vu
    have hns : ¬ Fp.tT a := fun hs => by rcases hso hs with h | h <;> contradiction
    refine au 2 ?_;refine al (ar rfl (cells := fe (fun _ => 0)) Kr) ?_;refine ag (ah rfl rfl Kr B2 rfl (bC _)) rfl ?_;rintro _ jr ⟨rfl, VB, cg⟩;have VC := E6.aA cg Vs;refine aU ?_;refine hret rfl rfl VB (aj _) ?_;exact ⟨_, by rw [decide_eq_false hns], by rw [if_neg hns]; exact FE.zero, VC⟩
   have Vy : (Fp.bY a * Fp.im) * (Fp.bY a * Fp.im) = a := by simpa using Vu
   have hns : Fp.tT a := Fp.lN Vy;refine aU ?_;refine aC func156 rfl (iW Vr _) ?_;rintro e VN ⟨rfl, ex⟩;obtain ⟨B1,B2,E6,B6⟩ := bU ex B1 B2 E6 B6;refine aU ?_;refine ak rfl (fun Vv => ?_) (fun Vv => ?_)
   ·refine aU ?_;refine aC func208 rfl (iN Vr _) ?_;rintro e VO ⟨d18, rfl, Vq, ex⟩;obtain ⟨B1,B2,E6,B6⟩ := bU ex B1 B2 E6 B6;refine au 1 ?_;refine ag (ah rfl rfl (by rw [Vq.size]; kernel_rfl) B6 (by rw [Vr.size, Vq.size]) Vq.one) rfl ?_;rintro _ VP ⟨rfl, VD, cg⟩;replace B1 := B1.aA cg Om; replace B2 := B2.aA cg Om; replace E6 := E6.aA cg Vt; replace B6 := VD;refine au 5 ?_;refine ag (ah rfl rfl (by rw [Vq.size]; kernel_rfl) B2 (by rw [aj, Vq.size]) Vq.one) rfl ?_;rintro _ VE ⟨rfl, Vw, cg⟩;have Vx := E6.aA cg Vs;refine aU ?_;refine hret rfl rfl Vw Vq.size ?_;exact ⟨_, by rw [decide_eq_true hns], by rw [if_pos hns]; exact Vq.congr (by unfold Fp.root; simp only [hq, ↓reduceIte, Vv]), Vx⟩
   refine au 5 ?_;refine ag (ah rfl rfl (by rw [Vr.size]; kernel_rfl) B2 (by rw [aj, Vr.size]) Vr.one) rfl ?_;rintro _ VE ⟨rfl, Vw, cg⟩;have Vx := E6.aA cg Vs;refine aU ?_;refine hret rfl rfl Vw Vr.size ?_;exact ⟨_, by rw [decide_eq_true hns], by rw [if_pos hns]; exact Vr.congr (by unfold Fp.root; simp only [hq, ↓reduceIte, Vv]), Vx⟩
  have hq : Fp.bY a * Fp.bY a = a := by simpa using Vz
  refine aU ?_;refine az Kr 5 rfl ?_; intro VJ ex VK;obtain ⟨B1,B2,E6,B6⟩ := bU ex B1 B2 E6 B6;refine zm [0, 2] ?_;refine bz 1 rfl func205 rfl (cx D _) ?_;rintro e VL ⟨d14, rfl, VA, ex⟩;obtain ⟨B1,B2,E6,B6⟩ := bU ex B1 B2 E6 B6;refine aU ?_;refine bz 3 rfl func242 rfl (fu VA ha _) ?_;rintro e VM ⟨rfl, ex⟩;obtain ⟨B1,B2,E6,B6⟩ := bU ex B1 B2 E6 B6;refine zm [4] ?_;refine bB rfl (fun Vu => ?_) (fun Vu => ?_)
  ·have Vy : ¬ (Fp.bY a) * (Fp.bY a) = a := by simpa using Vu
   have hns : ¬ Fp.tT a := fun hs => by rcases hso hs with h | h <;> contradiction
   refine au 2 ?_;refine al (ar rfl (cells := fe (fun _ => 0)) Kr) ?_;refine ag (ah rfl rfl Kr B2 rfl (bC _)) rfl ?_;rintro _ jr ⟨rfl, VB, cg⟩;have VC := E6.aA cg Vs;refine aU ?_;refine hret rfl rfl VB (aj _) ?_;exact ⟨_, by rw [decide_eq_false hns], by rw [if_neg hns]; exact FE.zero, VC⟩
  have Vy : (Fp.bY a) * (Fp.bY a) = a := by simpa using Vu
  have hns : Fp.tT a := Fp.lN Vy;refine aU ?_;refine aC func156 rfl (iW D _) ?_;rintro e VN ⟨rfl, ex⟩;obtain ⟨B1,B2,E6,B6⟩ := bU ex B1 B2 E6 B6;refine aU ?_;refine ak rfl (fun Vv => ?_) (fun Vv => ?_)
  ·refine aU ?_;refine aC func208 rfl (iN D _) ?_;rintro e VO ⟨d18, rfl, Vq, ex⟩;obtain ⟨B1,B2,E6,B6⟩ := bU ex B1 B2 E6 B6;refine au 1 ?_;refine ag (ah rfl rfl (by rw [Vq.size]; kernel_rfl) B6 (by rw [D.size, Vq.size]) Vq.one) rfl ?_;rintro _ VP ⟨rfl, VD, cg⟩;replace B1 := B1.aA cg Om; replace B2 := B2.aA cg Om; replace E6 := E6.aA cg Vt; replace B6 := VD;refine au 5 ?_;refine ag (ah rfl rfl (by rw [Vq.size]; kernel_rfl) B2 (by rw [aj, Vq.size]) Vq.one) rfl ?_;rintro _ VE ⟨rfl, Vw, cg⟩;have Vx := E6.aA cg Vs;refine aU ?_;refine hret rfl rfl Vw Vq.size ?_;exact ⟨_, by rw [decide_eq_true hns], by rw [if_pos hns]; exact Vq.congr (by unfold Fp.root; simp only [hq, ↓reduceIte, Vv]), Vx⟩
  refine au 5 ?_;refine ag (ah rfl rfl (by rw [D.size]; kernel_rfl) B2 (by rw [aj, D.size]) D.one) rfl ?_;rintro _ VE ⟨rfl, Vw, cg⟩;have Vx := E6.aA cg Vs;refine aU ?_;refine hret rfl rfl Vw D.size ?_;exact ⟨_, by rw [decide_eq_true hns], by rw [if_pos hns]; exact D.congr (by unfold Fp.root; simp only [hq, ↓reduceIte, Vv]), Vx⟩
 skip;have VG := E2; have VS := B2.lt;refine aQ rfl (dJ (Z := fe (fun _ => 0)) Kr) rfl ?_;rintro _ w5 ⟨g5, rfl, B5, VT, ex⟩;refine ⟨.inr ex, ?_⟩;obtain ⟨B1,B2,E2⟩ := bF ex B1 B2 E2;have Vt : w.heap.size ≤ g5 := by have := VG.size; omega
 refine bz 1 rfl func204 rfl (iG 254 15 _) ?_;rintro e w3 ⟨g3, rfl, H3, ex⟩;obtain ⟨B1,B2,E2,B5⟩ := bU ex B1 B2 E2 B5;refine aU ?_;refine bz 2 rfl func203 rfl (iZ ha _ 32 32 _ _ H3 Om) ?_;rintro e w4 ⟨ds, rfl, D, ex⟩;refine au 1 ?_;obtain ⟨B1,B2,E2,B5⟩ := bU ex B1 B2 E2 B5;rw [VQ] at D; replace D : FE ds (Fp.bY a) := D;refine aL 4 Kr ?_; refine aQ rfl (ah rfl rfl (by rw [D.size]; kernel_rfl) B5 (by rw [aj, D.size]) D.one) rfl ?_;rintro _ w6 ⟨rfl, B6, cg⟩;refine ⟨.inl rfl, ?_⟩;replace B1 := B1.aA cg Om; replace B2 := B2.aA cg Om; have E6 := E2.aA cg Vt;refine aU ?_;refine az Kr 5 rfl ?_; intro VU ex VV;obtain ⟨B1,B2,E6,B6⟩ := bU ex B1 B2 E6 B6;refine zm [0, 2] ?_;refine bz 1 rfl func205 rfl (cx D _) ?_;rintro e w7 ⟨d7, rfl, D7, ex⟩;obtain ⟨B1,B2,E6,B6⟩ := bU ex B1 B2 E6 B6;refine aU ?_;refine bz 3 rfl func242 rfl (fu D7 ha _) ?_;rintro e w8 ⟨rfl, ex⟩;obtain ⟨B1,B2,E6,B6⟩ := bU ex B1 B2 E6 B6;refine zm [4] ?_;refine bB rfl (fun Vz => ?_) (fun Vz => ?_)
 ·skip;have hq : ¬ Fp.bY a * Fp.bY a = a := by simpa using Vz
  refine az Kr 6 rfl ?_; intro VW ex VX;obtain ⟨B1,B2,E6,B6⟩ := bU ex B1 B2 E6 B6;refine zm [0] ?_;refine bz 1 rfl func143 rfl (dv 2 _ Om) ?_;rintro e w9 ⟨d9, rfl, D9, ex⟩;obtain ⟨B1,B2,E6,B6⟩ := bU ex B1 B2 E6 B6;refine aU ?_;refine bz 2 rfl func204 rfl (iG 251 31 _) ?_;rintro e VY ⟨VZ, rfl, VH, ex⟩;obtain ⟨B1,B2,E6,B6⟩ := bU ex B1 B2 E6 B6;refine aU ?_;refine bz 3 rfl func203 rfl (iZ D9 _ 32 32 _ _ VH Om) ?_;rintro e V0 ⟨d11, rfl, VF, ex⟩;refine aU ?_;obtain ⟨B1,B2,E6,B6⟩ := bU ex B1 B2 E6 B6;rw [VR, Fp.BG] at VF;refine bz 4 rfl func144 rfl (bQ D VF _) ?_;rintro e V4 ⟨d12, rfl, Vr, ex⟩;obtain ⟨B1,B2,E6,B6⟩ := bU ex B1 B2 E6 B6;refine aU ?_;refine aL 5 Kr ?_; refine aQ rfl (ah rfl rfl (by rw [Vr.size]; kernel_rfl) B6 (by rw [D.size, Vr.size]) Vr.one) rfl ?_;rintro _ V5 ⟨rfl, VI, cg⟩;refine ⟨.inl rfl, ?_⟩;replace B1 := B1.aA cg Om; replace B2 := B2.aA cg Om; replace E6 := E6.aA cg Vt; replace B6 := VI;refine aU ?_;refine az Kr 5 rfl ?_; intro VJ ex VK;obtain ⟨B1,B2,E6,B6⟩ := bU ex B1 B2 E6 B6;refine zm [0, 2] ?_;refine bz 1 rfl func205 rfl (cx Vr _) ?_;rintro e VL ⟨d14, rfl, VA, ex⟩;obtain ⟨B1,B2,E6,B6⟩ := bU ex B1 B2 E6 B6;refine aU ?_;refine bz 3 rfl func242 rfl (fu VA ha _) ?_;rintro e VM ⟨rfl, ex⟩;obtain ⟨B1,B2,E6,B6⟩ := bU ex B1 B2 E6 B6;refine zm [4] ?_;refine bB rfl (fun Vu => ?_) (fun Vu => ?_)
  ·have Vy : ¬ (Fp.bY a * Fp.im) * (Fp.bY a * Fp.im) = a := by simpa using Vu
   have hns : ¬ Fp.tT a := fun hs => by rcases hso hs with h | h <;> contradiction
   refine au 2 ?_;refine al (ar rfl (cells := fe (fun _ => 0)) Kr) ?_;refine ag (ah rfl rfl Kr B2 rfl (bC _)) rfl ?_;rintro _ jr ⟨rfl, VB, cg⟩;have VC := E6.aA cg Vs;refine aU ?_;refine hret rfl rfl VB (aj _) ?_;exact ⟨_, by rw [decide_eq_false hns], by rw [if_neg hns]; exact FE.zero, VC⟩
  have Vy : (Fp.bY a * Fp.im) * (Fp.bY a * Fp.im) = a := by simpa using Vu
  have hns : Fp.tT a := Fp.lN Vy;refine aU ?_;refine aC func156 rfl (iW Vr _) ?_;rintro e VN ⟨rfl, ex⟩;obtain ⟨B1,B2,E6,B6⟩ := bU ex B1 B2 E6 B6;refine aU ?_;refine ak rfl (fun Vv => ?_) (fun Vv => ?_)
  ·refine aU ?_;refine aC func208 rfl (iN Vr _) ?_;rintro e VO ⟨d18, rfl, Vq, ex⟩;obtain ⟨B1,B2,E6,B6⟩ := bU ex B1 B2 E6 B6;refine au 1 ?_;refine ag (ah rfl rfl (by rw [Vq.size]; kernel_rfl) B6 (by rw [Vr.size, Vq.size]) Vq.one) rfl ?_;rintro _ VP ⟨rfl, VD, cg⟩;replace B1 := B1.aA cg Om; replace B2 := B2.aA cg Om; replace E6 := E6.aA cg Vt; replace B6 := VD;refine au 5 ?_;refine ag (ah rfl rfl (by rw [Vq.size]; kernel_rfl) B2 (by rw [aj, Vq.size]) Vq.one) rfl ?_;rintro _ VE ⟨rfl, Vw, cg⟩;have Vx := E6.aA cg Vs;refine aU ?_;refine hret rfl rfl Vw Vq.size ?_;exact ⟨_, by rw [decide_eq_true hns], by rw [if_pos hns]; exact Vq.congr (by unfold Fp.root; simp only [hq, ↓reduceIte, Vv]), Vx⟩
  refine au 5 ?_;refine ag (ah rfl rfl (by rw [Vr.size]; kernel_rfl) B2 (by rw [aj, Vr.size]) Vr.one) rfl ?_;rintro _ VE ⟨rfl, Vw, cg⟩;have Vx := E6.aA cg Vs;refine aU ?_;refine hret rfl rfl Vw Vr.size ?_;exact ⟨_, by rw [decide_eq_true hns], by rw [if_pos hns]; exact Vr.congr (by unfold Fp.root; simp only [hq, ↓reduceIte, Vv]), Vx⟩
 have hq : Fp.bY a * Fp.bY a = a := by simpa using Vz
 refine aU ?_;refine az Kr 5 rfl ?_; intro VJ ex VK;obtain ⟨B1,B2,E6,B6⟩ := bU ex B1 B2 E6 B6;refine zm [0, 2] ?_;refine bz 1 rfl func205 rfl (cx D _) ?_;rintro e VL ⟨d14, rfl, VA, ex⟩;obtain ⟨B2,E6,B6⟩ := bF ex B2 E6 B6;refine aU ?_;refine bz 3 rfl func242 rfl (fu VA ha _) ?_;rintro e VM ⟨rfl, ex⟩;obtain ⟨B2,E6,B6⟩ := bF ex B2 E6 B6;refine zm [4] ?_;refine bB rfl (fun Vu => ?_) (fun Vu => ?_)
 ·have Vy : ¬ (Fp.bY a) * (Fp.bY a) = a := by simpa using Vu
  have hns : ¬ Fp.tT a := fun hs => by rcases hso hs with h | h <;> contradiction
  refine au 2 ?_;refine al (ar rfl (cells := fe (fun _ => 0)) Kr) ?_;refine ag (ah rfl rfl Kr B2 rfl (bC _)) rfl ?_;rintro _ jr ⟨rfl, VB, cg⟩;have VC := E6.aA cg Vs;refine aU ?_;refine hret rfl rfl VB (aj _) ?_;exact ⟨_, by rw [decide_eq_false hns], by rw [if_neg hns]; exact FE.zero, VC⟩
 have Vy : (Fp.bY a) * (Fp.bY a) = a := by simpa using Vu
 have hns : Fp.tT a := Fp.lN Vy;refine aU ?_;refine aC func156 rfl (iW D _) ?_;rintro e VN ⟨rfl, ex⟩;obtain ⟨B2,E6,B6⟩ := bF ex B2 E6 B6;refine aU ?_;refine ak rfl (fun Vv => ?_) (fun Vv => ?_)
 ·refine aU ?_;refine aC func208 rfl (iN D _) ?_;rintro e VO ⟨d18, rfl, Vq, ex⟩;obtain ⟨B2,E6,B6⟩ := bF ex B2 E6 B6;refine au 1 ?_;refine ag (ah rfl rfl (by rw [Vq.size]; kernel_rfl) B6 (by rw [D.size, Vq.size]) Vq.one) rfl ?_;rintro _ VP ⟨rfl, VD, cg⟩;replace B2 := B2.aA cg Om; replace E6 := E6.aA cg Vt; replace B6 := VD;refine au 5 ?_;refine ag (ah rfl rfl (by rw [Vq.size]; kernel_rfl) B2 (by rw [aj, Vq.size]) Vq.one) rfl ?_;rintro _ VE ⟨rfl, Vw, cg⟩;have Vx := E6.aA cg Vs;refine aU ?_;refine hret rfl rfl Vw Vq.size ?_;exact ⟨_, by rw [decide_eq_true hns], by rw [if_pos hns]; exact Vq.congr (by unfold Fp.root; simp only [hq, ↓reduceIte, Vv]), Vx⟩
 refine au 5 ?_;refine ag (ah rfl rfl (by rw [D.size]; kernel_rfl) B2 (by rw [aj, D.size]) D.one) rfl ?_;rintro _ VE ⟨rfl, Vw, cg⟩;have Vx := E6.aA cg Vs;refine aU ?_;refine hret rfl rfl Vw D.size ?_;exact ⟨_, by rw [decide_eq_true hns], by rw [if_pos hns]; exact D.congr (by unfold Fp.root; simp only [hq, ↓reduceIte, Vv]), Vx⟩
theorem My (A : Oa) (n c : Nat) (xs : Lb) (w : World) (HA : Bs w A n xs) :
  Ct 240 #[.slice A n c] w fun e w' => ∃ cs, e = .returned (.agg cs) ∧ FE cs (Fp.of (Fp.RL xs)) ∧ Ext w w' :=
 (Md A n c xs w HA).mono fun _ _ ⟨cs, h1, h2, h3⟩ => ⟨cs, h1, FE.of h2, h3⟩
end Go.Proofs.YtgfafidlkldeaaaGreat
