/- The field's Pow, Inv, Root, and bytes.Repeat of one byte: what each hands back. The field's power, Pow, Inv, Root: what each hands back. -/
import Derived.Test.YtgfafidlkldeaaaGreatFieldB
import Derived.Test.YtgfafidlkldeaaaGreatFieldS
import Derived.Test.YtgfafidlkldeaaaGreatAu
import Derived.Test.YtgfafidlkldeaaaGreatFieldA
import Derived.Test.YtgfafidlkldeaaaGreatVc7
set_option linter.unusedVariables false
set_option linter.unusedSimpArgs false
set_option maxHeartbeats 4000000
set_option maxRecDepth 4000
namespace Go.Proofs.YtgfafidlkldeaaaGreat
section
open Go.RowKit Tryz
attribute [local irreducible] Y Ef WL WC WK WQ WM cx
theorem GG (x k c : Nat) (h : (2 : Int) ^ (min (k : Int).toNat IntKind.u64.bits) = (c : Int)) : (x : Int) / 2 ^ (min (k : Int).toNat IntKind.u64.bits) = ((x / c : Nat) : Int) := by
 rw [h]; exact (Int.natCast_ediv _ _).symm
theorem Nc (x : Nat) (hx : x * 256 < 18446744073709551616) : IntKind.u64.wrap ((x : Int) * 2 ^ (min (8 : Int).toNat IntKind.u64.bits)) = ((x * 256 : Nat) : Int) := by
 rw [show (2 : Int) ^ (min (8 : Int).toNat IntKind.u64.bits) = 256 from rfl]
 exact aE Om hx
theorem OB (a b : Nat) (hb : b < 256) (ha : a * 256 < 18446744073709551616) : bits .or .u64 ((a * 256 : Nat) : Int) (b : Int) = ((a * 256 + b : Nat) : Int) := by
 have h := (cf (p := a * 256) (q := b) ha Om).2.1
 rw [h, show a * 256 = 2 ^ 8 * a by omega, Nat.two_pow_add_eq_or_of_lt (show b < 2 ^ 8 from hb)]
theorem GR (g o : Nat) (t : TypeId) (X : Lb) (w : World) (B : ao w g t (cJ X)) (hX : X.length = 32) (ho : o + 8 ≤ 32) :
  Ct 260 #[.int .i64 (o : Int), .pointer (some ⟨g, 0, none⟩)] w fun e w' => e = .returned (.int .u64 ((Fp.word X o : Nat) : Int)) ∧ Ext w w' := by
 refine aj 20 func260 rfl rfl rfl rfl ?_
 intro _ hret
 refine aU ?_
 refine aF (fun n' L wr => ∃ j x : Nat, L = [(0, .int .i64 (o : Int)), (1, .pointer (some ⟨g, 0, none⟩)), (4, .int .u64 (x : Int)), (5, .int .i64 ((j : Int) - 1))] ∧ n' = 1 + j ∧ (j ≤ 8 ∧ wr = w ∧ x = Fp.num ((X.drop (o + j)).take (8 - j)))) _ _ ⟨8, 0, rfl, rfl, by omega, rfl, by simp [Fp.num]⟩ Ls ?_
 rintro _ n' L wr ⟨j, x, rfl, rfl, _, rfl, hx⟩ Vl
 refine aU ?_
 refine al rfl (fun Vm => ?_) (fun Vm => ?_)
 ·refine au 4 ?_
  obtain ⟨j, rfl⟩ : ∃ i, j = i + 1 := ⟨j - 1, by omega⟩
  rw [show (((j + 1 : Nat) : Int) - 1) = (j : Int) by omega]
  have hst := Fp.yM X o j Om Om
  have hlt := Fp.Fh X o (j + 1) Om
  have hp : 256 ^ (8 - (j + 1)) ≤ 256 ^ 7 := Nat.pow_le_pow_right Om Om
  rw [← hx] at hst hlt
  obtain ⟨b, hb⟩ : ∃ b, b = (X.getD (o + j) 0).toNat := ⟨_, rfl⟩
  have hbl : b < 256 := by rw [hb]; exact UInt8.toNat_lt _
  rw [← hb] at hst
  have Vn : x < 72057594037927936 := by omega
  refine au 2 ?_
  refine ak (eP rfl rfl Om (Nc x Om)) ?_
  refine au 3 ?_
  refine ak (bG rfl rfl Tn.u Kr (j := o + j) Om Om) ?_
  refine ak (ah rfl Tn.u rfl (B.get (v := .int .u8 (b : Int)) (by rw [Nat.zero_add, iX Om, hb]))) ?_
  refine au 1 ?_
  refine ak (jk rfl rfl (OB x b hbl Om)) ?_
  refine au 9 ?_
  refine ae ?_
  refine Vl _ _ ⟨j, x * 256 + b, rfl, rfl, by omega, rfl, by rw [hst]; omega⟩ Om Ls
 ·refine aU ?_
  refine hret rfl ?_
  obtain rfl : j = 0 := by omega
  exact ⟨by rw [hx]; rfl, Ext.refl _⟩
theorem mc {L : List (Nat × Value)} {w : World} {ty t : TypeId} {z y : Operand} {ats : Array TypeId} {g o : Nat} {X : Lb} (hz : ev L z = some (.func (.func 260) #[] #[.pointer (some ⟨g, 0, none⟩)])) (hy : ev L y = some (.int .i64 (o : Int))) (B : ao w g t (cJ X)) (hX : X.length = 32) (ho : o + 8 ≤ 32) :
  Ef Tryz.prog L w (.call { callee := .value z, args := #[y], argTypes := ats }) ty fun v w' => v = .int .u64 ((Fp.word X o : Nat) : Int) ∧ Ext w w' :=
 lK (us := [.pointer (some ⟨g, 0, none⟩)]) (xs := [y]) (vs := [.int .i64 (o : Int)]) hz func260 rfl rfl (by simp [lI, hy]) (GR g o t X w B hX ho) (fun _ _ h => ⟨_, h.1, rfl, h.2⟩)
theorem Au {w : World} {g : Nat} {t : TypeId} (b : Lb) (h : ao w g t ((cJ (fV 32)).toList.take 0 ++ (b.take 32).map bv ++ (cJ (fV 32)).toList.drop (0 + ((b.take 32).map bv).length)).toArray) : ao w g t (cJ (Fp.pad b)) := by
 refine h.congr ?_
 unfold cJ Fp.pad
 rw [List.map_append]
 congr 1
 rw [List.take_zero, List.nil_append, Nat.zero_add, List.length_map, List.toList_toArray]
 congr 1
 unfold fV
 rw [List.map_replicate, List.drop_replicate, List.map_replicate]
theorem Ey (A : Oa) (n c : Nat) (b : Lb) (w : World) (HA : Bs w A n b) :
  Ct 240 #[.slice A n c] w fun e w' => ∃ es, e = .returned (.agg es) ∧ Fe es (Fp.Mv b) ∧ Ext w w' := by
 have hX := Fp.cG b
 have HT : Bs w A (min n 32) (b.take 32) := by
  have h := HA.take (k := min n 32) Om
  have hn := HA.1
  rcases Nat.le_total n 32 with h1 | h1
  ·rw [Nat.min_eq_left h1, List.take_of_length_le Om] at h
   rw [Nat.min_eq_left h1, List.take_of_length_le Om]; exact h
  ·rw [Nat.min_eq_right h1] at h ⊢; exact h
 refine aI (s := 5) 30 func240 rfl rfl rfl underlying134 rfl Kr rfl ?_
 intro _ hret
 refine aU ?_
 intro w1 g1 (B1 : ao _ _ _ (fe (fun _ => 0))) Vl ex
 have E := ex; have Vn := B1.lt
 refine aU ?_
 intro w2 g2 (B2 : ao _ _ _ (cJ (fV 32))) Vm ex
 replace E := E.ext ex; replace B1 := B1.ext ex
 refine au 4 ?_
 refine ak (uQ (s := 1) rfl Tn.u Kr) ?_
 refine aU ?_
 refine af (fz rfl rfl Tn.u Kr B2 (HT.wk E).2 (by rw [List.length_map, HT.1]) (by rw [List.length_map, HT.1, aW]; simp [fV]; omega) aH) rfl ?_
 rintro _ _ ⟨rfl, B3, cg⟩
 replace B3 := Au b B3; replace E := E.aw cg (Nat.le_trans (by have := Vl; omega) Vm); replace B1 := B1.aw cg Om
 refine au 4 ?_
 refine ak (jc rfl) ?_
 refine aU ?_
 refine af (mc (o := 0) rfl rfl B3 hX Om) rfl ?_
 rintro _ _ ⟨rfl, ex⟩
 obtain ⟨E,B1,B3⟩ := bC ex E B1 B3
 refine ak (cD rfl rfl (jo _ (Fp.word_lt _ 0 Om))) ?_
 refine aU ?_
 refine af (mc (o := 6) rfl rfl B3 hX Om) rfl ?_
 rintro _ _ ⟨rfl, ex⟩
 obtain ⟨E,B1,B3⟩ := bC ex E B1 B3
 refine ak (bY rfl rfl Om (GG _ 3 8 rfl)) ?_
 refine ak (cD rfl rfl (jo _ (by have := Fp.word_lt (Fp.pad b) 6 Om; omega))) ?_
 refine aU ?_
 refine af (mc (o := 12) rfl rfl B3 hX Om) rfl ?_
 rintro _ _ ⟨rfl, ex⟩
 obtain ⟨E,B1,B3⟩ := bC ex E B1 B3
 refine ak (bY rfl rfl Om (GG _ 6 64 rfl)) ?_
 refine ak (cD rfl rfl (jo _ (by have := Fp.word_lt (Fp.pad b) 12 Om; omega))) ?_
 refine aU ?_
 refine af (mc (o := 19) rfl rfl B3 hX Om) rfl ?_
 rintro _ _ ⟨rfl, ex⟩
 obtain ⟨E,B1,B3⟩ := bC ex E B1 B3
 refine ak (bY rfl rfl Om (GG _ 1 2 rfl)) ?_
 refine ak (cD rfl rfl (jo _ (by have := Fp.word_lt (Fp.pad b) 19 Om; omega))) ?_
 refine aU ?_
 refine af (mc (o := 24) rfl rfl B3 hX Om) rfl ?_
 rintro _ _ ⟨rfl, ex⟩
 obtain ⟨E,B1⟩ := aY ex E B1
 refine ak (bY rfl rfl Om (GG _ 12 4096 rfl)) ?_
 refine ak (cD rfl rfl (jo _ (by have := Fp.word_lt (Fp.pad b) 24 Om; omega))) ?_
 refine ak (aJ rfl (cells := fe (Fp.vR (Fp.pad b))) Kr) ?_
 refine ak (aJ rfl (cells := fe (Fp.vR (Fp.pad b))) Kr) ?_
 refine af (ag rfl rfl (by rw [ai]; kernel_rfl) B1 (by rw [ai, ai]) (bh _)) rfl ?_
 rintro _ _ ⟨rfl, B9, cg⟩
 have E9 := E.aw cg Vl
 refine aU ?_
 refine hret rfl B9 (ai _) ?_
 exact ⟨_, rfl, ⟨_, rfl, fun j _ => by have := Fp.Ju (Fp.pad b) j; omega, by rw [Fp.Ek _ hX, Fp.FR]; rfl⟩, E9⟩
end
section
section
open Go.RowKit Tryz
attribute [local irreducible] Y Ef WL WC WK WQ WM cx
theorem pd (k : Nat) (hk : k ≤ 1000000) (w : World) :
  ∃ v w', (callFunc 262 #[.int .i64 (k : Int)]).run Tryz.prog w = .ok (.value v) w' ∧ JG w 5 k v w' := by
 obtain ⟨cs, hrun, hle, _⟩ := Lib.run_makeNoZero (P := Tryz.prog) w #[3] 23 5 underlying23 k Om
 refine ⟨_, _, ?_, w.heap.size, cs, rfl, ao.new w.drew.drew 5 cs, hle, Nat.le_refl _, ?_⟩
 ·rw [run_callFunc_extern func262 Kr Kr Kr (e := Extern.BytealgMakeNoZero.makeNoZero #[3] #[23]) Kr, hrun]
  rfl
 ·exact (((Ext.drew w).tr (Ext.drew w.drew))).tr (Ext.alloc _ _)
theorem AF (x y : Nat) (w : World) (hx : x < 18446744073709551616) (hy : y < 18446744073709551616) :
  Ct 261 #[.int .u64 (x : Int), .int .u64 (y : Int)] w fun e w' => e = .returned (.tuple #[.int .u64 ((x * y / 18446744073709551616 : Nat) : Int), .int .u64 ((x * y % 18446744073709551616 : Nat) : Int)]) ∧ Ext w w' := by
 refine bK 30 func261 rfl rfl rfl rfl ?_
 intro _ hret
 refine au 7 ?_
 refine cm rfl rfl ?_
 refine aU ?_
 refine aL func237 rfl (mP x y _ hx hy) ?_
 rintro e _ ⟨rfl, ex⟩
 refine aU ?_
 refine hret rfl rfl ?_
 exact ⟨rfl, ex⟩
def oA (w : World) (g n c : Nat) (b : UInt8) : Prop := ∃ tl : List Value, ao w g 5 ((List.replicate n b).map bv ++ tl).toArray ∧ n + tl.length = c
theorem oA.ext {w w' : World} {g n c : Nat} {b : UInt8} (h : oA w g n c b) (k : Ext w w') : oA w' g n c b := by
 obtain ⟨tl, h1, h2⟩ := h; exact ⟨tl, h1.ext k, h2⟩
theorem oA.at {w : World} {g n c m : Nat} {b : UInt8} (h : oA w g n c b) (hm : m ≤ n) : At w (some ⟨g, 0, none⟩) ((List.replicate m b).map bv) := by
 obtain ⟨tl, h1, h2⟩ := h
 refine h1.at 0 _ fun j u hu => ?_
 have hj : j < m := by have := (List.getElem?_eq_some_iff.1 hu).1; simpa using this
 rw [Nat.zero_add]
 rw [List.map_replicate, List.getElem?_replicate_of_lt hj] at hu
 simp only [List.map_replicate, List.getElem?_toArray]
 rw [List.getElem?_append_left So, List.getElem?_replicate_of_lt Om]
 exact hu
theorem AI {n m : Nat} {b : UInt8} {tl : List Value} (hm : m ≤ tl.length) :
  ((List.replicate n b).map bv ++ tl).take n ++ (List.replicate m b).map bv ++ ((List.replicate n b).map bv ++ tl).drop (n + ((List.replicate m b).map bv).length) = (List.replicate (n + m) b).map bv ++ tl.drop m := by
 simp only [List.map_replicate, List.length_replicate]
 rw [List.take_append_of_le_length (by simp), List.take_of_length_le (by simp), List.drop_append, List.drop_of_length_le (by simp), List.nil_append, List.length_replicate, show n + m - n = m by omega, List.replicate_append_replicate]
theorem xp (A : Oa) (c k : Nat) (b : UInt8) (w : World) (HA : Bs w A 1 [b]) (Vq : 0 < k) (hk : k ≤ 4000) :
  Ct 241 #[.slice A 1 c, .int .i64 (k : Int)] w fun e w' => ∃ g C, e = .returned (.slice (some ⟨g, 0, none⟩) k k) ∧ oA w' g k C b ∧ w.heap.size ≤ g ∧ Ext w w' := by
 refine aj 77 func241 rfl rfl rfl rfl ?_
 intro _ hret
 refine aU ?_
 refine aL func261 rfl (AF 1 k _ Om Om) ?_
 rintro e _ ⟨rfl, ex⟩
 refine au 1 ?_
 replace HA := HA.ext ex
 rw [show 1 * k / 18446744073709551616 = 0 by omega, show 1 * k % 18446744073709551616 = k by omega]; have E1 := ex
 refine aU ?_
 refine af (GW rfl (pd k Om _)) rfl ?_
 rintro _ _ ⟨g, cs, rfl, B2, hcs, hg, ex⟩
 replace HA := HA.ext ex
 have E2 := E1.ext ex
 refine au 2 ?_
 refine ak (Fm (s := 1) (h := k) (m := k) rfl rfl rfl Tn.u Kr rfl rfl Om hcs) ?_
 refine aU ?_
 refine af (fz (cs := [b].map bv) rfl rfl Tn.u Kr B2 HA.2 (by show 1 = min 1 k; omega) (by show 0 + 1 ≤ cs.size; omega) aH) rfl ?_
 rintro _ w3 ⟨rfl, B3, cg⟩
 have Vl : w.heap.size ≤ g := Nat.le_trans E1.size hg; have E3 := E2.aw cg Vl; have R3 : oA w3 g 1 cs.size b := ⟨cs.toList.drop 1, B3.congr (by simp), by simp; omega⟩
 refine aU ?_
 refine aF (fun n' L wr => ∃ i : Nat, L = [(7, .int .i64 (k : Int)), (8, .int .i64 (k : Int)), (9, .slice (some ⟨g, 0, none⟩) k k), (10, .int .i64 (i : Int))] ∧ n' = k - i ∧ (1 ≤ i ∧ i ≤ k ∧ Ext w wr ∧ oA wr g i cs.size b)) _ _ ⟨1, rfl, rfl, by omega, by omega, E3, R3⟩ Ls ?_
 rintro _ n' L wr ⟨i, rfl, rfl, _, _, F, R⟩ Vn
 refine aU ?_
 refine al rfl (fun Vo => ?_) (fun Vo => ?_)
 ·refine au 7 ?_
  refine ak (xY rfl rfl) ?_
  rw [show (if (k : Int) < (i : Int) then (k : Int) else (i : Int)) = (i : Int) by rw [if_neg Om]]
  refine aU ?_
  refine aA Kr 10 rfl ?_; intro Vm ex Vp
  replace F := F.ext ex; replace R := R.ext ex
  refine zm [0, 1, 2] ?_
  refine cU 3 rfl (fun _ => ph (s := 1) rfl rfl Tn.u Kr rfl Om) ?_
  rw [show kK (some ⟨g, 0, none⟩) k i 1 = some (⟨g, i, none⟩ : Addr) by unfold kK; rw [if_neg Om, Nat.mul_one]; show some ((⟨g, 0, none⟩ : Addr).add i) = _; rw [add_lit, Nat.zero_add]]
  refine zm [4, 5] ?_
  refine cU 6 rfl (fun _ => pn (s := 1) rfl rfl Tn.u Kr rfl Om) ?_
  obtain ⟨tl, BR, hl⟩ := R
  have R : oA Vm g i cs.size b := ⟨tl, BR, hl⟩
  refine aM 7 Kr ?_; refine aO rfl (fz (cs := (List.replicate (min i (k - i)) b).map bv) rfl rfl Tn.u Kr BR (R.at Om) (by simp) So aH) rfl ?_
  rintro _ _ ⟨rfl, B5, cg⟩
  refine ⟨.inl rfl, ?_⟩
  rw [AI Om] at B5; have F5 := F.aw cg Vl
  refine my 8 rfl (aN rfl rfl (bk (n := i + min i (k - i)) (by simp) Om)) ?_
  refine Cc [9] ?_
  refine au 5 ?_
  refine ae ?_
  refine Vn _ _ ⟨i + min i (k - i), rfl, rfl, by omega, by omega, F5, ⟨_, B5, by simp; omega⟩⟩ Om Ls
 ·refine aU ?_
  refine hret rfl ?_
  obtain rfl : i = k := by omega
  exact ⟨g, cs.size, rfl, R, Vl, F⟩
end
section
open Go.RowKit Tryz
attribute [local irreducible] Y Ef WL WC WK WQ WM cx
def ME (a b : UInt8) : List UInt8 := a :: (List.replicate 30 255 ++ [b])
theorem fY (a b : UInt8) (w : World) :
  Ct 204 #[.int .u8 (a.toNat : Int), .int .u8 (b.toNat : Int)] w fun e w' => ∃ g, e = .returned (.slice (some ⟨g, 0, none⟩) 32 32) ∧ Bs w' (some ⟨g, 0, none⟩) 32 (ME a b) ∧ Ext w w' := by
 refine aj 15 func204 rfl rfl rfl rfl ?_
 intro _ hret
 refine aU ?_
 refine af (aB (z := .int .u8 0) Tn.u Kr rfl rfl rfl rfl rfl) rfl ?_
 rintro _ w1 ⟨g1, rfl, B1, _, ex⟩
 have E1 := ex; have H1 : Bs w1 (some ⟨g1, 0, none⟩) 1 [255] := aZ (xs := [255]) B1 rfl
 refine aL func241 rfl (xp _ 1 32 255 _ H1 Om Om) ?_
 rintro e _ ⟨g, _, rfl, ⟨tl, B2, _⟩, hg, ex⟩
 have E2 := E1.ext ex; have Vl : w.heap.size ≤ g := Nat.le_trans E1.size hg
 refine au 10 ?_
 refine ak (aD rfl rfl Tn.u Kr (j := 0) rfl Om) ?_
 refine af (az rfl rfl rfl Kr B2 (by simp)) rfl ?_
 rintro _ _ ⟨rfl, B3, cg⟩
 have E3 := E2.aw cg Vl
 refine ak (aD rfl rfl Tn.u Kr (j := 31) rfl Om) ?_
 refine af (az rfl rfl rfl Kr B3 (by simp)) rfl ?_
 rintro _ _ ⟨rfl, B4, cg⟩
 have E4 := E3.aw cg Vl
 refine aU ?_
 refine hret rfl ?_
 refine ⟨g, rfl, ⟨rfl, B4.at 0 _ fun j u hu => ?_⟩, E4⟩
 have hj : j < 32 := (List.getElem?_eq_some_iff.1 hu).1
 rw [← hu]
 simp only [Nat.zero_add, List.map_replicate, List.setIfInBounds_toArray, List.getElem?_toArray]
 rw [show (List.replicate 32 (bv 255) ++ tl).set 0 (.int .u8 (a.toNat : Int)) = bv a :: (List.replicate 31 (bv 255) ++ tl) from rfl]
 rw [show (bv a :: (List.replicate 31 (bv 255) ++ tl)).set 31 (.int .u8 (b.toNat : Int)) = (bv a :: (List.replicate 30 (bv 255) ++ [bv b])) ++ tl from rfl]
 rw [List.getElem?_append_left (by simpa using hj)]
 rfl
def FE (cs : Array Value) (a : Fp.F) : Prop := Fe cs a.val
theorem FE.of {cs : Array Value} {x : Nat} (h : Fe cs x) : FE cs (Fp.of x) := by
 unfold FE; rw [Fp.sA, Nat.mod_eq_of_lt h.lt]; exact h
theorem FE.congr {cs : Array Value} {a b : Fp.F} (h : FE cs a) (e : a = b) : FE cs b := e ▸ h
theorem FE.size {cs : Array Value} {a : Fp.F} (h : FE cs a) : cs.size = 5 := Fe.size h
theorem FE.one {cs : Array Value} {a : Fp.F} (h : FE cs a) : cs.all (·.oneCell') = true := Fe.one h
theorem FE.zero : FE (fe (fun _ => 0)) 0 := Fe.zero
section
variable {cs ds : Array Value} {a b : Fp.F}
theorem bE (ha : FE cs a) (hb : FE ds b) (w : World) : Ct 144 #[.agg cs, .agg ds] w fun e w' => ∃ es, e = .returned (.agg es) ∧ FE es (a * b) ∧ Ext w w' :=
 (vj ha hb w).mono fun _ _ ⟨es, h1, h2, h3⟩ => ⟨es, h1, by unfold FE; rw [Fp.val_mul]; exact h2, h3⟩
theorem dK (ha : FE cs a) (hb : FE ds b) (w : World) : Ct 151 #[.agg cs, .agg ds] w fun e w' => ∃ es, e = .returned (.agg es) ∧ FE es (a + b) ∧ Ext w w' :=
 (DE ha hb w).mono fun _ _ ⟨es, h1, h2, h3⟩ => ⟨es, h1, by unfold FE; rw [Fp.val_add]; exact h2, h3⟩
theorem eQ (ha : FE cs a) (hb : FE ds b) (w : World) : Ct 206 #[.agg cs, .agg ds] w fun e w' => ∃ es, e = .returned (.agg es) ∧ FE es (a - b) ∧ Ext w w' :=
 (uF ha hb w).mono fun _ _ ⟨es, h1, h2, h3⟩ => ⟨es, h1, by unfold FE; rw [Fp.val_sub]; exact h2, h3⟩
theorem gD (ha : FE cs a) (w : World) : Ct 208 #[.agg cs] w fun e w' => ∃ es, e = .returned (.agg es) ∧ FE es (-a) ∧ Ext w w' :=
 (BL ha w).mono fun _ _ ⟨es, h1, h2, h3⟩ => ⟨es, h1, by unfold FE; rw [Fp.val_neg]; exact h2, h3⟩
theorem bQ (ha : FE cs a) (w : World) : Ct 205 #[.agg cs] w fun e w' => ∃ es, e = .returned (.agg es) ∧ FE es (a * a) ∧ Ext w w' :=
 (uL ha w).mono fun _ _ ⟨es, h1, h2, h3⟩ => ⟨es, h1, by unfold FE; rw [Fp.val_mul]; exact h2, h3⟩
theorem cP (n : Nat) (w : World) (hn : n < 18446744073709551616) : Ct 143 #[.int .u64 (n : Int)] w fun e w' => ∃ es, e = .returned (.agg es) ∧ FE es (Fp.of n) ∧ Ext w w' :=
 (Ca n w hn).mono fun _ _ ⟨es, h1, h2, h3⟩ => ⟨es, h1, FE.of h2, h3⟩
theorem dP (ha : FE cs a) (hb : FE ds b) (w : World) : Ct 242 #[.agg cs, .agg ds] w fun e w' => e = .returned (.bool (decide (a = b))) ∧ Ext w w' :=
 (zu ha hb w).mono fun _ _ ⟨h1, h2⟩ => ⟨h1.trans (dJ Fp.val_inj), h2⟩
theorem gn (ha : FE cs a) (w : World) : Ct 156 #[.agg cs] w fun e w' => e = .returned (.bool (decide (a.val % 2 = 1))) ∧ Ext w w' := Av ha w
end
theorem Cq (a : Fp.F) (N j : Nat) : Fp.pow a (N / 2 ^ j) = if N / 2 ^ j % 2 = 1 then Fp.pow a (N / 2 ^ (j + 1)) * Fp.pow a (N / 2 ^ (j + 1)) * a else Fp.pow a (N / 2 ^ (j + 1)) * Fp.pow a (N / 2 ^ (j + 1)) := by
 have e : N / 2 ^ (j + 1) = N / 2 ^ j / 2 := by rw [Nat.pow_succ, Nat.div_div_eq_div_mul]
 rw [e, ← Fp.ja]
 split
 ·rw [← Fp.pow_succ]; congr 1; omega
 ·congr 1; omega
theorem yn (es : Lb) (j : Nat) (hj : j / 8 < es.length) : (es.getD (j / 8) 0).toNat / 2 ^ (j % 8) % 2 = Fp.num es / 2 ^ j % 2 := by
 have h1 := Fp.oW es (j / 8) Om
 have h2 : es.drop (j / 8) = es[j / 8] :: es.drop (j / 8 + 1) := List.drop_eq_getElem_cons hj
 rw [h2, Fp.num] at h1
 rw [Fp.jU j, Nat.mul_comm, ← Nat.div_div_eq_div_mul, ← h1, List.getD_eq_getElem?_getD, List.getElem?_eq_getElem hj]
 show (es[j / 8]).toNat / _ % 2 = _
 generalize (es[j / 8]).toNat = x
 generalize Fp.num (es.drop (j / 8 + 1)) = y
 have hlt : j % 8 < 8 := Nat.mod_lt _ Om
 generalize j % 8 = m at hlt
 have : m = 0 ∨ m = 1 ∨ m = 2 ∨ m = 3 ∨ m = 4 ∨ m = 5 ∨ m = 6 ∨ m = 7 := by omega
 rcases this with rfl | rfl | rfl | rfl | rfl | rfl | rfl | rfl <;> simp only [Nat.reducePow] <;> omega
theorem BU (x m : Nat) (hm : m < 8) : (x : Int) / 2 ^ (min ((m : Int)).toNat IntKind.u8.bits) = ((x / 2 ^ m : Nat) : Int) := by
 have e : min ((m : Int)).toNat IntKind.u8.bits = m := by show min m 8 = m; omega
 rw [e, Int.natCast_ediv, Int.natCast_pow]; rfl
theorem IB (x : Nat) (hx : x < 256) : bits .and .u8 (x : Int) 1 = ((x % 2 : Nat) : Int) := by
 have h := (bN (p := x) (q := 1) hx Om).1
 rw [show ((1 : Int)) = ((1 : Nat) : Int) from rfl, h, Nat.and_one_is_mod]
theorem gB {cs : Array Value} {a : Fp.F} (ha : FE cs a) (A : Oa) (n c : Nat) (es : Lb) (w : World) (HA : Bs w A n es) (hn : n ≤ 1000) :
  Ct 203 #[.agg cs, .slice A n c] w fun e w' => ∃ ds, e = .returned (.agg ds) ∧ FE ds (Fp.pow a (Fp.num es)) ∧ Ext w w' := by
 have hle := HA.1
 have Vt := HA
 refine aI (s := 5) 31 func203 rfl rfl rfl underlying134 rfl Kr rfl ?_
 intro _ hret
 refine aU ?_
 intro w1 g1 (B1 : ao _ _ _ (cs)) VA ex
 have E1 := ex; have VB := B1.lt
 refine aU ?_
 intro w2 g2 (B2 : ao _ _ _ (fe (fun _ => 0))) Vu ex
 have E2 := E1.ext ex; replace B1 := B1.ext ex; have Vo : w.heap.size ≤ g2 := Nat.le_trans E1.size Vu; have Vv := B2.lt
 refine aU ?_
 refine eY 0 (fun n' L wr => ∃ (b g4 : Nat) (ds : Array Value), L = [(1, .slice A n c), (2, .pointer (some ⟨g1, 0, none⟩)), (4, .pointer (some ⟨g2, 0, none⟩)), (5, .pointer (some ⟨g4, 0, none⟩)), (6, .int .i64 (b : Int))] ∧ n' = 1 + b ∧ (b ≤ 8 * n ∧ w.heap.size ≤ g4 ∧ g1 < g2 ∧ g2 < g4 ∧ Ext w wr ∧ ao wr g1 134 cs ∧ ao wr g2 134 (fe (fun _ => 0)) ∧ ao wr g4 134 ds ∧ FE ds (Fp.pow a (Fp.num es / 2 ^ b)))) rfl ?_ ?_
 ·rintro G n' L wr ⟨b, g4, ds, rfl, rfl, _, Vl, Vq, Vr, F, C1, C2, C4, D⟩ Vn
  refine aU ?_
  refine al rfl (fun Vw => ?_) (fun Vw => ?_)
  ·skip
   obtain ⟨j, rfl⟩ : ∃ i, b = i + 1 := ⟨b - 1, by omega⟩
   rw [show (((j + 1 : Nat) : Int) - 1) = (j : Int) by omega]
   have Vs : j / 8 < n := by omega
   have hpb := Cq a (Fp.num es) j
   have hnb := yn es j Om
   obtain ⟨b1, Vx, x, rfl, hx, Vm⟩ := Vt.byte (k := j / 8) Vs
   have hcx := (F.cell (dQ Vm)).trans Vm
   have hxl := x.toNat_lt
   rw [← hx.out] at hnb
   have hxd : x.toNat / 2 ^ (j % 8) < 256 := Nat.lt_of_le_of_lt (Nat.div_le_self _ _) Om
   refine aU ?_
   refine aL func205 rfl (bQ D _) ?_
   rintro e w6 ⟨d6, rfl, D6, ex⟩
   refine au 1 ?_
   have F6 := F.ext ex; replace C1 := C1.ext ex; replace C2 := C2.ext ex; replace C4 := C4.ext ex
   refine af (ag rfl rfl (by rw [D6.size]; kernel_rfl) C4 (by rw [D.size, D6.size]) D6.one) rfl ?_
   rintro _ _ ⟨rfl, B7, cg⟩
   replace F := F6.aw cg Vl; replace C1 := C1.aw cg Om; replace C2 := C2.aw cg Om; replace C4 := B7; have hcx := (F.cell (dQ Vm)).trans Vm
   refine au 7 ?_
   refine ak (cY rfl rfl Om (show IntKind.i64.wrap ((j : Int).tdiv 8) = ((j / 8 : Nat) : Int) from bk rfl Om)) ?_
   refine ak (aD rfl rfl Tn.u Kr (j := j / 8) rfl Vs) ?_
   refine ak (ah rfl Tn.u rfl hcx) ?_
   refine au 1 ?_
   refine ak (cy rfl rfl Om (show ((j : Int).tmod 8) = ((j % 8 : Nat) : Int) from rfl)) ?_
   refine ak (bY rfl rfl Om (BU _ _ Om)) ?_
   refine ak (cD rfl rfl (IB _ hxd)) ?_
   refine aU ?_
   refine al rfl (fun Vy => ?_) (fun Vy => ?_)
   ·refine aU ?_
    refine aL func144 rfl (bE D6 ha _) ?_
    rintro e _ ⟨d8, rfl, D8, ex⟩
    refine au 1 ?_
    have F8 := F.ext ex; replace C1 := C1.ext ex; replace C2 := C2.ext ex; replace C4 := C4.ext ex
    refine af (ag rfl rfl (by rw [D8.size]; kernel_rfl) C4 (by rw [D6.size, D8.size]) D8.one) rfl ?_
    rintro _ _ ⟨rfl, B9, cg⟩
    replace F := F8.aw cg Vl; replace C1 := C1.aw cg Om; replace C2 := C2.aw cg Om; replace C4 := B9
    refine aU ?_
    refine bZ ?_
    refine Vn _ _ ⟨j, g4, d8, rfl, rfl, by omega, Vl, Vq, Vr, F, C1, C2, C4, D8.congr (by rw [hpb, if_pos Om])⟩ Om Ls
   ·refine aU ?_
    refine bZ ?_
    refine Vn _ _ ⟨j, g4, d6, rfl, rfl, by omega, Vl, Vq, Vr, F, C1, C2, C4, D6.congr (by rw [hpb, if_neg Om])⟩ Om Ls
  ·refine au 5 ?_
   refine af (ag rfl rfl (by rw [D.size]; kernel_rfl) C2 (by rw [ai, D.size]) D.one) rfl ?_
   rintro _ w6 ⟨rfl, B6, cg⟩
   have F6 := F.aw cg Vo
   refine aU ?_
   refine cC ?_
   refine hret rfl B6 D.size ?_
   exact ⟨_, rfl, D.congr (by rw [show b = 0 by omega, Nat.pow_zero, Nat.div_one]), F6⟩
 ·intro G Vn
  refine aU ?_
  refine aL func143 rfl (cP 1 _ Om) ?_
  rintro e _ ⟨d3, rfl, F3, ex⟩
  have E3 := E2.ext ex; replace B1 := B1.ext ex; replace B2 := B2.ext ex
  refine aU ?_
  intro w4 g4 (B4 : ao _ _ _ (fe (fun _ => 0))) Vz ex
  have E4 := E3.ext ex; replace B1 := B1.ext ex; have Vv := B2.lt; replace B2 := B2.ext ex; have Vl : w.heap.size ≤ g4 := Nat.le_trans E3.size Vz
  refine af (ag rfl rfl (by rw [F3.size]; kernel_rfl) B4 (by rw [ai, F3.size]) F3.one) rfl ?_
  rintro _ _ ⟨rfl, B5, cg⟩
  have E5 := E4.aw cg Vl; replace B1 := B1.aw cg (by have := B1.lt; omega); replace B2 := B2.aw cg Om
  refine au 6 ?_
  refine ak (cz rfl rfl (bk (n := 8 * n) Om Om)) ?_
  refine au 3 ?_
  refine lk ?_; intro VC Vp
  refine gI ?_
  refine ae (Vp ?_)
  exact Vn _ _ ⟨8 * n, g4, d3, rfl, rfl, Nat.le_refl _, Vl, by omega, by have := E3.size; omega, E5, B1, B2, B5, F3.congr (by rw [Nat.div_eq_of_lt (by have := Fp.m6 es; rw [hle] at this; rwa [Nat.pow_mul]), Fp.pow_zero]; rfl)⟩ Ls
end
end
end Go.Proofs.YtgfafidlkldeaaaGreat
