/- The reference's place in bytes: what each of its functions hands back. No conditions: contracts of the reference's functions. -/
import Derived.Test.YtgfafidlkldeaaaGreatMsZ
import Derived.Test.YtgfafidlkldeaaaGreatAu
set_option linter.unusedVariables false
set_option linter.unusedSimpArgs false
set_option maxHeartbeats 4000000
set_option maxRecDepth 4000
namespace Go.Proofs.YtgfafidlkldeaaaGreat
section
open Go.RowKit Tryz
variable {P : Program} {f : FuncId} {fn : Func} {c : Code} {args : Array Value} {R : Ending → World → Prop} {w : World}
theorem nY {ty : TypeId} {u t : Tmp} (hr : fn.results = #[.tmp t, .cell u ty]) (tmps : Array Value) (w : World) {cs : Array Value} {d : TypeDesc} {g : Nat} {e : TypeId} {v : Value} (hp : tmps.getD u undef = .pointer (some ⟨g, 0, none⟩)) (h1 : tmps.getD t undef = v) (hg : ao w g e cs)
  (hu : P.underlying ty = some d) (hd : (match d with | .struct _ | .array _ _ => true | _ => false) = true) (hi : (P.info? ty).map (·.size) = some cs.size) : (results fn tmps).run P w = .ok (.tuple #[v, .agg cs]) w := by
 have Vw : tmps[u]?.getD undef = .pointer (some ⟨g, 0, none⟩) := by simpa using hp
 have Vx : tmps[t]?.getD undef = v := by simpa using h1
 simp [results, hr, Vw, Vx, asAddr, run_loadVar_row w g e ty cs _ d hg hu hd hi]
theorem mq {ty : TypeId} {s : Nat} {d : TypeDesc} (N : Nat) {u t : Tmp} (hf : P.funcs[f]? = some fn) (hb : fn.body = some c) (hN : fn.ntmps = N) (hr : fn.results = #[.tmp t, .cell u ty]) (hu : P.underlying ty = some d) (hd : (match d with | .struct _ | .array _ _ => true | _ => false) = true) (hs : (P.info? ty).map (·.size) = some s) (hsz : Nat.ble args.size N = true)
  (h : ∀ Q : Exit → Act → World → Prop, (∀ {N : Nat} {L : List (Nat × Value)} {w : World} {g : Nat} {e : TypeId} {cs : Array Value} {v : Value}, look L u = some (.pointer (some ⟨g, 0, none⟩)) → look L t = some v → ao w g e cs → cs.size = s → R (.returned (.tuple #[v, .agg cs])) w → WQ Q .ret N L w) → WC P Q c N (fm 0 args.toList) w) : Calls P f args w R :=
 eC N hf hb hN hsz fun Q hQ => h Q fun {N L w g e cs v} hv ht hg Vw hR a ha => hQ (bodyPost_ret (v := .tuple #[v, .agg cs]) (nY hr _ _ (cA (ha.has _ _ hv)) (cA (ha.has _ _ ht)) hg hu hd (by rw [Vw]; exact hs)) ha.defers hR)
theorem qI {t : TypeId} {d : TypeDesc} (hu : P.underlying t = some d) (hd : (match d with | .struct _ | .array _ _ => false | _ => true) = true) (w : World) : (isAgg t).run P w = .ok false w := by
 unfold isAgg
 rw [Sem.run_bind, run_underlying hu w]
 cases d <;> first | rfl | (simp at hd)
theorem vq {ty Vw : TypeId} {p q u : Tmp} (hr : fn.results = #[.cell p ty, .cell q Vw, .tmp u]) (tmps : Array Value) (w : World) {d d' : TypeDesc} {g g' : Nat} {v v' x : Value} (hp : tmps.getD p undef = .pointer (some ⟨g, 0, none⟩)) (hq : tmps.getD q undef = .pointer (some ⟨g', 0, none⟩)) (hx : tmps.getD u undef = x) (hg : w.cell? ⟨g, 0, none⟩ = some v) (Vx : w.cell? ⟨g', 0, none⟩ = some v')
  (hu : P.underlying ty = some d) (hd : (match d with | .struct _ | .array _ _ => false | _ => true) = true) (Vy : P.underlying Vw = some d') (Vz : (match d' with | .struct _ | .array _ _ => false | _ => true) = true) : (results fn tmps).run P w = .ok (.tuple #[v, v', x]) w := by
 have VA : tmps[p]?.getD undef = .pointer (some ⟨g, 0, none⟩) := by simpa using hp
 have VB : tmps[q]?.getD undef = .pointer (some ⟨g', 0, none⟩) := by simpa using hq
 have VC : tmps[u]?.getD undef = x := by simpa using hx
 have h1 := qI (P := P) hu hd w
 have h2 := qI (P := P) Vy Vz w
 simp [results, hr, VA, VB, VC, asAddr, loadVar, h1, h2, hg, Vx]
theorem vh {ty Vw : TypeId} {d d' : TypeDesc} (N : Nat) {p q u : Tmp} (hf : P.funcs[f]? = some fn) (hb : fn.body = some c) (hN : fn.ntmps = N) (hr : fn.results = #[.cell p ty, .cell q Vw, .tmp u]) (hu : P.underlying ty = some d) (hd : (match d with | .struct _ | .array _ _ => false | _ => true) = true) (Vx : P.underlying Vw = some d') (Vy : (match d' with | .struct _ | .array _ _ => false | _ => true) = true) (hsz : Nat.ble args.size N = true)
  (h : ∀ Q : Exit → Act → World → Prop, (∀ {N : Nat} {L : List (Nat × Value)} {w : World} {g g' : Nat} {v v' x : Value}, look L p = some (.pointer (some ⟨g, 0, none⟩)) → look L q = some (.pointer (some ⟨g', 0, none⟩)) → look L u = some x → w.cell? ⟨g, 0, none⟩ = some v → w.cell? ⟨g', 0, none⟩ = some v' → R (.returned (.tuple #[v, v', x])) w → WQ Q .ret N L w) → WC P Q c N (fm 0 args.toList) w) : Calls P f args w R :=
 eC N hf hb hN hsz fun Q hQ => h Q fun {N L w g g' v v' x} hv Vz hx hg VA hR a ha => hQ (bodyPost_ret (v := .tuple #[v, v', x]) (vq hr _ _ (cA (ha.has _ _ hv)) (cA (ha.has _ _ Vz)) (cA (ha.has _ _ hx)) hg VA hu hd Vx Vy) ha.defers hR)
end
section
open Go.RowKit Tryz
attribute [local irreducible] Y Ef WL WC WK WQ WM cE WN WF dc WJ gJ
open Wire Nd M20
theorem jz (xs : Lb) (i : Nat) : nb (xs.take i) < 256 ^ i := by
 have h := si (xs.take i)
 refine Nat.lt_of_lt_of_le h (Nat.pow_le_pow_right Om ?_)
 rw [List.length_take]; omega
theorem kL (b : Lb) (p i : Nat) : (b.drop p).getD i 0 = b.getD (p + i) 0 := by simp [List.getD_eq_getElem?_getD]
theorem jm {kd sz : Int} {n n' : Nat} {h : Hd} {q : Int} (hq : q = (n' : Int)) : (cx kd sz n h).setIfInBounds 2 (.int .u64 q) = cx kd sz n' h := by subst hq; rfl
theorem yG {A : Oa} {n c at_ : Nat} {b : Lb} (k : Nat) (z : Int) (hz : z = (k : Int)) (w : World) (HA : Bs w A n b) (hn : n ≤ 1000000) (hat : at_ ≤ n) (hk : k = 1 ∨ k = 2 ∨ k = 4 ∨ k = 8) :
  Ct 186 #[.slice A n c, .int .i64 (at_ : Int), .agg (cx 0 z 0 an)] w fun e w' => e = .returned (.tuple #[.agg (cx 0 z (di k b at_).1 an), .int .i64 (((di k b at_).2.1 : Nat) : Int), .int .i64 (((di k b at_).2.2 : Nat) : Int)]) ∧ Ext w w' := by
 subst hz
 have F := aA.refl [] w
 have KA : Kp w.heap.size [] (fun w => Bs w A n b) w := Kp.bs HA (by simp)
 have hbl := HA.1
 have hdl : (b.drop at_).length = n - at_ := by rw [List.length_drop, hbl]
 refine kj (s := 5) 186 func186 rfl rfl rfl underlying231 rfl Kr rfl ?_
 intro _ hret
 refine aU ?_
 intro _ VC B5 _ ex
 have VO := B5.lt
 obtain ⟨F,KA⟩ := ba ex F KA
 refine aU ?_
 intro _ Vw B6 VD ex
 have VP := ex.size
 replace F := F.grow ex VD
 replace KA := KA.grow ex VD
 replace B5 := B5.grow ex VD
 refine au 10 ?_
 refine ak (aq rfl (cells := cx 0 (k : Int) 0 an) Kr) ?_
 refine aU ?_
 intro _ Vx B9 VA ex
 have VN : Vw < Vx := Nat.lt_of_lt_of_le B6.lt VA
 replace F := F.grow ex VA
 replace KA := KA.grow ex VA
 replace B5 := B5.grow ex VA
 replace B6 := B6.grow ex VA
 refine aU ?_
 intro _ D cg
 have ex := aA.one cg
 clear cg
 obtain ⟨F,KA,B5,B6⟩ := dj ex F KA B5 B6
 replace B9 := D; clear D
 replace B9 := B9.congr (cs' := cx 0 (k : Int) 0 an) rfl
 refine au 22 ?_
 refine aR (iY rfl rfl) rfl (fun k1 => ?_) (fun k1 => ?_)
 ·refine au 3 ?_
  refine aJ 33 rfl rfl (iY rfl rfl) rfl (fun k2 => ?_) (fun k2 => ?_)
  ·refine au 4 ?_
   refine aJ 38 rfl rfl (iY rfl rfl) rfl (fun k4 => ?_) (fun k4 => ?_)
   ·refine aU ?_
    refine al rfl (fun VE => ?_) (fun VE => ?_)
    ·refine aU ?_
     intro VB D cg
     have ex := aA.one cg
     clear cg
     replace F := F.bo ex
     replace B6 := D; clear D
     replace B6 := B6.congr (cs' := cx 0 (k : Int) 0 an) rfl
     refine aU ?_
     refine hret rfl rfl rfl B6 rfl ?_
     have e : di k b at_ = (0, at_, 4) := by unfold di; rw [if_pos Om]
     rw [e]
     exact ⟨rfl, (F.drop Om).drop Om |>.aD (by simp)⟩
    ·refine aU ?_
     refine az (fun n' L wr => ∃ (i : Nat), L = [(0, .slice A n c), (1, .int .i64 (at_ : Int)), (5, .pointer (some ⟨VC, 0, none⟩)), (6, .pointer (some ⟨Vw, 0, none⟩)), (9, .pointer (some ⟨Vx, 0, none⟩)), (10, .int .i64 (i : Int))] ∧ n' = k - i ∧ (i ≤ k ∧ aA [Vx, Vw] w wr ∧ Kp w.heap.size [Vx, Vw] (fun w => Bs w A n b) wr ∧ ao wr VC 231 (cx 0 (k : Int) 0 an) ∧ ao wr Vw 231 (cx 0 0 0 an) ∧ ao wr Vx 231 (cx 0 (k : Int) (nb ((b.drop at_).take i)) an))) _ _ ⟨0, rfl, rfl, Nat.zero_le _, F, KA, B5, B6, B9⟩ Ls ?_
     rintro VL n' L wr ⟨i, rfl, rfl, hi, F, KA, B5, B6, B9⟩ VF
     refine aU ?_
     refine al rfl (fun VG => ?_) (fun VG => ?_)
     ·refine aU ?_
      obtain ⟨b0, o0, rfl, _, _⟩ := KA.out.get (k := at_ + i) Om
      have VM := UInt8.toNat_lt (b.getD (at_ + i) 0)
      have hlt := Nat.lt_of_lt_of_le (jz (b.drop at_) i) (Nat.pow_le_pow_right (n := 256) Om (show i ≤ 7 by omega))
      have hst := eJ (xs := b.drop at_) (k := i) Om
      rw [kL] at hst
      refine bS [(12, [Vx])] Kr 13 rfl ?_; intro VH ex VI
      obtain ⟨F,KA,B5,B6,B9⟩ := er ex F KA B5 B6 B9
      refine fO [(0, []), (1, [])] ?_
      refine aU ?_
      refine iz 2 [] rfl (fun wr (cr : aA ([]) _ wr) => cD rfl rfl (IntWalk.u64_in _ ⟨by omega, by omega⟩)) ?_
      refine fO [(3, []), (4, []), (5, []), (6, [])] ?_
      refine aU ?_
      refine iz 7 [] rfl (fun wr (cr : aA ([]) _ wr) => aw rfl rfl Tn.u Kr (j := at_ + i) Om Om) ?_
      refine iz 8 [] rfl (fun wr (cr : aA ([]) _ wr) => af rfl Tn.u rfl ((KA.bo cr).out.td (k := at_ + i) Om)) ?_
      refine fO [(9, [])] ?_
      refine aU ?_
      refine iz 10 [] rfl (fun wr (cr : aA ([]) _ wr) => aO rfl rfl (IntWalk.u64_in _ ⟨by omega, by omega⟩)) ?_
      refine fO [(11, [])] ?_
      refine aU ?_
      refine cy 12 Kr ?_; refine cZ rfl (av (i := 2) rfl rfl rfl Kr B9 Nb) rfl ?_
      rintro _ Vy ⟨rfl, D, cg⟩
      have ex := aA.one cg
      clear cg
      refine ⟨ex, ?_⟩
      obtain ⟨F,KA,B5,B6⟩ := dj ex F KA B5 B6
      replace B9 := D; clear D
      replace B9 := B9.congr (jm (n' := nb ((b.drop at_).take (i + 1))) (by rw [hst]; omega))
      refine cF Kr ?_
      refine au 8 ?_
      refine ae ?_
      refine VF _ _ ⟨i + 1, rfl, rfl, by omega, F, KA, B5, B6, B9⟩ Om Ls
     ·refine aU ?_
      obtain rfl : i = k := by omega
      refine bS [(5, [Vw])] Kr 8 rfl ?_; intro VJ ex VK
      obtain ⟨F,B5,B6,B9⟩ := bO ex F B5 B6 B9
      refine fO [(0, []), (1, [5]), (2, [5]), (3, [5]), (4, [5])] ?_
      refine aU ?_
      refine cy 5 Kr ?_; refine cZ rfl (aL (o := 0) rfl rfl Kr B6 Nb (aS rfl)) rfl ?_
      rintro _ Vz ⟨rfl, D, cg⟩
      have ex := aA.one cg
      clear cg
      refine ⟨ex, ?_⟩
      replace F := F.bo ex
      replace B6 := D; clear D
      replace B6 := B6.congr (cs' := cx 0 (i : Int) (nb ((b.drop at_).take i)) an) rfl
      refine fO [(6, []), (7, [])] ?_
      refine aU ?_
      refine cF Kr ?_
      refine aU ?_
      refine hret rfl rfl rfl B6 rfl ?_
      have e : di i b at_ = (nb ((b.drop at_).take i), at_ + i, 0) := by unfold di; rw [if_neg Om]
      rw [e]
      exact ⟨rfl, (F.drop Om).drop Om |>.aD (by simp)⟩
   ·refine au 8 ?_
    refine aX rfl rfl ?_
    refine aU ?_
    refine al rfl (fun VE => ?_) (fun VE => ?_)
    ·refine aU ?_
     intro VB D cg
     have ex := aA.one cg
     clear cg
     replace F := F.bo ex
     replace B6 := D; clear D
     replace B6 := B6.congr (cs' := cx 0 (k : Int) 0 an) rfl
     refine aU ?_
     refine hret rfl rfl rfl B6 rfl ?_
     have e : di k b at_ = (0, at_, 4) := by unfold di; rw [if_pos Om]
     rw [e]
     exact ⟨rfl, (F.drop Om).drop Om |>.aD (by simp)⟩
    ·refine aU ?_
     refine az (fun n' L wr => ∃ (i : Nat), L = [(0, .slice A n c), (1, .int .i64 (at_ : Int)), (5, .pointer (some ⟨VC, 0, none⟩)), (6, .pointer (some ⟨Vw, 0, none⟩)), (9, .pointer (some ⟨Vx, 0, none⟩)), (10, .int .i64 (i : Int))] ∧ n' = k - i ∧ (i ≤ k ∧ aA [Vx, Vw] w wr ∧ Kp w.heap.size [Vx, Vw] (fun w => Bs w A n b) wr ∧ ao wr VC 231 (cx 0 (k : Int) 0 an) ∧ ao wr Vw 231 (cx 0 0 0 an) ∧ ao wr Vx 231 (cx 0 (k : Int) (nb ((b.drop at_).take i)) an))) _ _ ⟨0, rfl, rfl, Nat.zero_le _, F, KA, B5, B6, B9⟩ Ls ?_
     rintro VL n' L wr ⟨i, rfl, rfl, hi, F, KA, B5, B6, B9⟩ VF
     refine aU ?_
     refine al rfl (fun VG => ?_) (fun VG => ?_)
     ·refine aU ?_
      obtain ⟨b0, o0, rfl, _, _⟩ := KA.out.get (k := at_ + i) Om
      have VM := UInt8.toNat_lt (b.getD (at_ + i) 0)
      have hlt := Nat.lt_of_lt_of_le (jz (b.drop at_) i) (Nat.pow_le_pow_right (n := 256) Om (show i ≤ 7 by omega))
      have hst := eJ (xs := b.drop at_) (k := i) Om
      rw [kL] at hst
      refine bS [(12, [Vx])] Kr 13 rfl ?_; intro VH ex VI
      obtain ⟨F,KA,B5,B6,B9⟩ := er ex F KA B5 B6 B9
      refine fO [(0, []), (1, [])] ?_
      refine aU ?_
      refine iz 2 [] rfl (fun wr (cr : aA ([]) _ wr) => cD rfl rfl (IntWalk.u64_in _ ⟨by omega, by omega⟩)) ?_
      refine fO [(3, []), (4, []), (5, []), (6, [])] ?_
      refine aU ?_
      refine iz 7 [] rfl (fun wr (cr : aA ([]) _ wr) => aw rfl rfl Tn.u Kr (j := at_ + i) Om Om) ?_
      refine iz 8 [] rfl (fun wr (cr : aA ([]) _ wr) => af rfl Tn.u rfl ((KA.bo cr).out.td (k := at_ + i) Om)) ?_
      refine fO [(9, [])] ?_
      refine aU ?_
      refine iz 10 [] rfl (fun wr (cr : aA ([]) _ wr) => aO rfl rfl (IntWalk.u64_in _ ⟨by omega, by omega⟩)) ?_
      refine fO [(11, [])] ?_
      refine aU ?_
      refine cy 12 Kr ?_; refine cZ rfl (av (i := 2) rfl rfl rfl Kr B9 Nb) rfl ?_
      rintro _ Vy ⟨rfl, D, cg⟩
      have ex := aA.one cg
      clear cg
      refine ⟨ex, ?_⟩
      obtain ⟨F,KA,B5,B6⟩ := dj ex F KA B5 B6
      replace B9 := D; clear D
      replace B9 := B9.congr (jm (n' := nb ((b.drop at_).take (i + 1))) (by rw [hst]; omega))
      refine cF Kr ?_
      refine au 8 ?_
      refine ae ?_
      refine VF _ _ ⟨i + 1, rfl, rfl, by omega, F, KA, B5, B6, B9⟩ Om Ls
     ·refine aU ?_
      obtain rfl : i = k := by omega
      refine bS [(5, [Vw])] Kr 8 rfl ?_; intro VJ ex VK
      obtain ⟨F,B5,B6,B9⟩ := bO ex F B5 B6 B9
      refine fO [(0, []), (1, [5]), (2, [5]), (3, [5]), (4, [5])] ?_
      refine aU ?_
      refine cy 5 Kr ?_; refine cZ rfl (aL (o := 0) rfl rfl Kr B6 Nb (aS rfl)) rfl ?_
      rintro _ Vz ⟨rfl, D, cg⟩
      have ex := aA.one cg
      clear cg
      refine ⟨ex, ?_⟩
      replace F := F.bo ex
      replace B6 := D; clear D
      replace B6 := B6.congr (cs' := cx 0 (i : Int) (nb ((b.drop at_).take i)) an) rfl
      refine fO [(6, []), (7, [])] ?_
      refine aU ?_
      refine cF Kr ?_
      refine aU ?_
      refine hret rfl rfl rfl B6 rfl ?_
      have e : di i b at_ = (nb ((b.drop at_).take i), at_ + i, 0) := by unfold di; rw [if_neg Om]
      rw [e]
      exact ⟨rfl, (F.drop Om).drop Om |>.aD (by simp)⟩
  ·refine au 13 ?_
   refine aX rfl rfl ?_
   refine aU ?_
   refine al rfl (fun VE => ?_) (fun VE => ?_)
   ·refine aU ?_
    intro VB D cg
    have ex := aA.one cg
    clear cg
    replace F := F.bo ex
    replace B6 := D; clear D
    replace B6 := B6.congr (cs' := cx 0 (k : Int) 0 an) rfl
    refine aU ?_
    refine hret rfl rfl rfl B6 rfl ?_
    have e : di k b at_ = (0, at_, 4) := by unfold di; rw [if_pos Om]
    rw [e]
    exact ⟨rfl, (F.drop Om).drop Om |>.aD (by simp)⟩
   ·refine aU ?_
    refine az (fun n' L wr => ∃ (i : Nat), L = [(0, .slice A n c), (1, .int .i64 (at_ : Int)), (5, .pointer (some ⟨VC, 0, none⟩)), (6, .pointer (some ⟨Vw, 0, none⟩)), (9, .pointer (some ⟨Vx, 0, none⟩)), (10, .int .i64 (i : Int))] ∧ n' = k - i ∧ (i ≤ k ∧ aA [Vx, Vw] w wr ∧ Kp w.heap.size [Vx, Vw] (fun w => Bs w A n b) wr ∧ ao wr VC 231 (cx 0 (k : Int) 0 an) ∧ ao wr Vw 231 (cx 0 0 0 an) ∧ ao wr Vx 231 (cx 0 (k : Int) (nb ((b.drop at_).take i)) an))) _ _ ⟨0, rfl, rfl, Nat.zero_le _, F, KA, B5, B6, B9⟩ Ls ?_
    rintro VL n' L wr ⟨i, rfl, rfl, hi, F, KA, B5, B6, B9⟩ VF
    refine aU ?_
    refine al rfl (fun VG => ?_) (fun VG => ?_)
    ·refine aU ?_
     obtain ⟨b0, o0, rfl, _, _⟩ := KA.out.get (k := at_ + i) Om
     have VM := UInt8.toNat_lt (b.getD (at_ + i) 0)
     have hlt := Nat.lt_of_lt_of_le (jz (b.drop at_) i) (Nat.pow_le_pow_right (n := 256) Om (show i ≤ 7 by omega))
     have hst := eJ (xs := b.drop at_) (k := i) Om
     rw [kL] at hst
     refine bS [(12, [Vx])] Kr 13 rfl ?_; intro VH ex VI
     obtain ⟨F,KA,B5,B6,B9⟩ := er ex F KA B5 B6 B9
     refine fO [(0, []), (1, [])] ?_
     refine aU ?_
     refine iz 2 [] rfl (fun wr (cr : aA ([]) _ wr) => cD rfl rfl (IntWalk.u64_in _ ⟨by omega, by omega⟩)) ?_
     refine fO [(3, []), (4, []), (5, []), (6, [])] ?_
     refine aU ?_
     refine iz 7 [] rfl (fun wr (cr : aA ([]) _ wr) => aw rfl rfl Tn.u Kr (j := at_ + i) Om Om) ?_
     refine iz 8 [] rfl (fun wr (cr : aA ([]) _ wr) => af rfl Tn.u rfl ((KA.bo cr).out.td (k := at_ + i) Om)) ?_
     refine fO [(9, [])] ?_
     refine aU ?_
     refine iz 10 [] rfl (fun wr (cr : aA ([]) _ wr) => aO rfl rfl (IntWalk.u64_in _ ⟨by omega, by omega⟩)) ?_
     refine fO [(11, [])] ?_
     refine aU ?_
     refine cy 12 Kr ?_; refine cZ rfl (av (i := 2) rfl rfl rfl Kr B9 Nb) rfl ?_
     rintro _ Vy ⟨rfl, D, cg⟩
     have ex := aA.one cg
     clear cg
     refine ⟨ex, ?_⟩
     obtain ⟨F,KA,B5,B6⟩ := dj ex F KA B5 B6
     replace B9 := D; clear D
     replace B9 := B9.congr (jm (n' := nb ((b.drop at_).take (i + 1))) (by rw [hst]; omega))
     refine cF Kr ?_
     refine au 8 ?_
     refine ae ?_
     refine VF _ _ ⟨i + 1, rfl, rfl, by omega, F, KA, B5, B6, B9⟩ Om Ls
    ·refine aU ?_
     obtain rfl : i = k := by omega
     refine bS [(5, [Vw])] Kr 8 rfl ?_; intro VJ ex VK
     obtain ⟨F,B5,B6,B9⟩ := bO ex F B5 B6 B9
     refine fO [(0, []), (1, [5]), (2, [5]), (3, [5]), (4, [5])] ?_
     refine aU ?_
     refine cy 5 Kr ?_; refine cZ rfl (aL (o := 0) rfl rfl Kr B6 Nb (aS rfl)) rfl ?_
     rintro _ Vz ⟨rfl, D, cg⟩
     have ex := aA.one cg
     clear cg
     refine ⟨ex, ?_⟩
     replace F := F.bo ex
     replace B6 := D; clear D
     replace B6 := B6.congr (cs' := cx 0 (i : Int) (nb ((b.drop at_).take i)) an) rfl
     refine fO [(6, []), (7, [])] ?_
     refine aU ?_
     refine cF Kr ?_
     refine aU ?_
     refine hret rfl rfl rfl B6 rfl ?_
     have e : di i b at_ = (nb ((b.drop at_).take i), at_ + i, 0) := by unfold di; rw [if_neg Om]
     rw [e]
     exact ⟨rfl, (F.drop Om).drop Om |>.aD (by simp)⟩
 ·refine au 17 ?_
  refine aX rfl rfl ?_
  refine aU ?_
  refine al rfl (fun VE => ?_) (fun VE => ?_)
  ·refine aU ?_
   intro VB D cg
   have ex := aA.one cg
   clear cg
   replace F := F.bo ex
   replace B6 := D; clear D
   replace B6 := B6.congr (cs' := cx 0 (k : Int) 0 an) rfl
   refine aU ?_
   refine hret rfl rfl rfl B6 rfl ?_
   have e : di k b at_ = (0, at_, 4) := by unfold di; rw [if_pos Om]
   rw [e]
   exact ⟨rfl, (F.drop Om).drop Om |>.aD (by simp)⟩
  ·refine aU ?_
   refine az (fun n' L wr => ∃ (i : Nat), L = [(0, .slice A n c), (1, .int .i64 (at_ : Int)), (5, .pointer (some ⟨VC, 0, none⟩)), (6, .pointer (some ⟨Vw, 0, none⟩)), (9, .pointer (some ⟨Vx, 0, none⟩)), (10, .int .i64 (i : Int))] ∧ n' = k - i ∧ (i ≤ k ∧ aA [Vx, Vw] w wr ∧ Kp w.heap.size [Vx, Vw] (fun w => Bs w A n b) wr ∧ ao wr VC 231 (cx 0 (k : Int) 0 an) ∧ ao wr Vw 231 (cx 0 0 0 an) ∧ ao wr Vx 231 (cx 0 (k : Int) (nb ((b.drop at_).take i)) an))) _ _ ⟨0, rfl, rfl, Nat.zero_le _, F, KA, B5, B6, B9⟩ Ls ?_
   rintro VL n' L wr ⟨i, rfl, rfl, hi, F, KA, B5, B6, B9⟩ VF
   refine aU ?_
   refine al rfl (fun VG => ?_) (fun VG => ?_)
   ·refine aU ?_
    obtain ⟨b0, o0, rfl, _, _⟩ := KA.out.get (k := at_ + i) Om
    have VM := UInt8.toNat_lt (b.getD (at_ + i) 0)
    have hlt := Nat.lt_of_lt_of_le (jz (b.drop at_) i) (Nat.pow_le_pow_right (n := 256) Om (show i ≤ 7 by omega))
    have hst := eJ (xs := b.drop at_) (k := i) Om
    rw [kL] at hst
    refine bS [(12, [Vx])] Kr 13 rfl ?_; intro VH ex VI
    obtain ⟨F,KA,B5,B6,B9⟩ := er ex F KA B5 B6 B9
    refine fO [(0, []), (1, [])] ?_
    refine aU ?_
    refine iz 2 [] rfl (fun wr (cr : aA ([]) _ wr) => cD rfl rfl (IntWalk.u64_in _ ⟨by omega, by omega⟩)) ?_
    refine fO [(3, []), (4, []), (5, []), (6, [])] ?_
    refine aU ?_
    refine iz 7 [] rfl (fun wr (cr : aA ([]) _ wr) => aw rfl rfl Tn.u Kr (j := at_ + i) Om Om) ?_
    refine iz 8 [] rfl (fun wr (cr : aA ([]) _ wr) => af rfl Tn.u rfl ((KA.bo cr).out.td (k := at_ + i) Om)) ?_
    refine fO [(9, [])] ?_
    refine aU ?_
    refine iz 10 [] rfl (fun wr (cr : aA ([]) _ wr) => aO rfl rfl (IntWalk.u64_in _ ⟨by omega, by omega⟩)) ?_
    refine fO [(11, [])] ?_
    refine aU ?_
    refine cy 12 Kr ?_; refine cZ rfl (av (i := 2) rfl rfl rfl Kr B9 Nb) rfl ?_
    rintro _ Vy ⟨rfl, D, cg⟩
    have ex := aA.one cg
    clear cg
    refine ⟨ex, ?_⟩
    obtain ⟨F,KA,B5,B6⟩ := dj ex F KA B5 B6
    replace B9 := D; clear D
    replace B9 := B9.congr (jm (n' := nb ((b.drop at_).take (i + 1))) (by rw [hst]; omega))
    refine cF Kr ?_
    refine au 8 ?_
    refine ae ?_
    refine VF _ _ ⟨i + 1, rfl, rfl, by omega, F, KA, B5, B6, B9⟩ Om Ls
   ·refine aU ?_
    obtain rfl : i = k := by omega
    refine bS [(5, [Vw])] Kr 8 rfl ?_; intro VJ ex VK
    obtain ⟨F,B5,B6,B9⟩ := bO ex F B5 B6 B9
    refine fO [(0, []), (1, [5]), (2, [5]), (3, [5]), (4, [5])] ?_
    refine aU ?_
    refine cy 5 Kr ?_; refine cZ rfl (aL (o := 0) rfl rfl Kr B6 Nb (aS rfl)) rfl ?_
    rintro _ Vz ⟨rfl, D, cg⟩
    have ex := aA.one cg
    clear cg
    refine ⟨ex, ?_⟩
    replace F := F.bo ex
    replace B6 := D; clear D
    replace B6 := B6.congr (cs' := cx 0 (i : Int) (nb ((b.drop at_).take i)) an) rfl
    refine fO [(6, []), (7, [])] ?_
    refine aU ?_
    refine cF Kr ?_
    refine aU ?_
    refine hret rfl rfl rfl B6 rfl ?_
    have e : di i b at_ = (nb ((b.drop at_).take i), at_ + i, 0) := by unfold di; rw [if_neg Om]
    rw [e]
    exact ⟨rfl, (F.drop Om).drop Om |>.aD (by simp)⟩
def cR (b : Lb) (at_ : Nat) : Nat × Nat × Nat := if b.length ≤ at_ then (0, at_, 4) else if 1 < (b.getD at_ 0).toNat then (0, at_, 3) else ((b.getD at_ 0).toNat, at_ + 1, 0)
theorem zF {A : Oa} {n c at_ : Nat} {b : Lb} (w : World) (HA : Bs w A n b) (hn : n ≤ 1000000) (hat : at_ ≤ n) :
  Ct 186 #[.slice A n c, .int .i64 (at_ : Int), .agg (cx 3 0 0 an)] w fun e w' => e = .returned (.tuple #[.agg (cx 3 0 (cR b at_).1 an), .int .i64 (((cR b at_).2.1 : Nat) : Int), .int .i64 (((cR b at_).2.2 : Nat) : Int)]) ∧ Ext w w' := by
 have F := aA.refl [] w
 have KA : Kp w.heap.size [] (fun w => Bs w A n b) w := Kp.bs HA (by simp)
 have hbl := HA.1
 refine kj (s := 5) 186 func186 rfl rfl rfl underlying231 rfl Kr rfl ?_
 intro _ hret
 refine aU ?_
 intro _ _ B5 _ ex
 have VD := B5.lt
 obtain ⟨F,KA⟩ := ba ex F KA
 refine aU ?_
 intro _ VB B6 Vx ex
 have VE := ex.size
 replace F := F.grow ex Vx
 replace KA := KA.grow ex Vx
 replace B5 := B5.grow ex Vx
 refine au 10 ?_
 refine ak (aq rfl (cells := cx 3 0 0 an) Kr) ?_
 refine aU ?_
 intro _ VC B9 Vw ex
 have VA : VB < VC := Nat.lt_of_lt_of_le B6.lt Vw
 replace F := F.grow ex Vw
 replace KA := KA.grow ex Vw
 replace B5 := B5.grow ex Vw
 replace B6 := B6.grow ex Vw
 refine aU ?_
 intro _ D cg
 have ex := aA.one cg
 clear cg
 obtain ⟨F,KA,B5,B6⟩ := dj ex F KA B5 B6
 replace B9 := D; clear D
 replace B9 := B9.congr (cs' := cx 3 0 0 an) rfl
 refine aU ?_
 refine al rfl (fun Vy => ?_) (fun Vy => ?_)
 ·refine aU ?_
  intro _ D cg
  have ex := aA.one cg
  clear cg
  replace F := F.bo ex
  replace B6 := D; clear D
  replace B6 := B6.congr (cs' := cx 3 0 0 an) rfl
  refine aU ?_
  refine hret rfl rfl rfl B6 rfl ?_
  have e : cR b at_ = (0, at_, 4) := by unfold cR; rw [if_pos Om]
  rw [e]
  exact ⟨rfl, (F.drop Om).drop Om |>.aD (by simp)⟩
 ·have hlt : at_ < n := by omega
  obtain ⟨b0, o0, rfl, _, _⟩ := KA.out.get hlt
  have VF := UInt8.toNat_lt (b.getD at_ 0)
  refine au 7 ?_
  refine ak (aw rfl rfl Tn.u Kr (j := at_) rfl Om) ?_
  refine ak (af rfl Tn.u rfl (KA.out.td hlt)) ?_
  refine aU ?_
  refine al rfl (fun Vz => ?_) (fun Vz => ?_)
  ·refine aU ?_
   intro _ D cg
   have ex := aA.one cg
   clear cg
   replace F := F.bo ex
   replace B6 := D; clear D
   replace B6 := B6.congr (cs' := cx 3 0 0 an) rfl
   refine aU ?_
   refine hret rfl rfl rfl B6 rfl ?_
   have e : cR b at_ = (0, at_, 3) := by unfold cR; rw [if_neg Om, if_pos Om]
   rw [e]
   exact ⟨rfl, (F.drop Om).drop Om |>.aD (by simp)⟩
  ·refine au 6 ?_
   refine ak (aw rfl rfl Tn.u Kr (j := at_) rfl Om) ?_
   refine ak (af rfl Tn.u rfl (KA.out.td hlt)) ?_
   refine aU ?_
   intro _ D cg
   have ex := aA.one cg
   clear cg
   obtain ⟨F,B6⟩ := gA ex F B6
   replace B9 := D; clear D
   replace B9 := B9.congr (jm (n' := (b.getD at_ 0).toNat) rfl)
   refine aU ?_
   intro _ D cg
   have ex := aA.one cg
   clear cg
   replace F := F.bo ex
   replace B6 := D; clear D
   replace B6 := B6.congr (cs' := cx 3 0 (b.getD at_ 0).toNat an) rfl
   refine aU ?_
   refine hret rfl rfl rfl B6 rfl ?_
   have e : cR b at_ = ((b.getD at_ 0).toNat, at_ + 1, 0) := by unfold cR; rw [if_neg Om, if_neg Om]
   rw [e]
   exact ⟨rfl, (F.drop Om).drop Om |>.aD (by simp)⟩
theorem DX {s : St} {c : Nat} (h : (cU s).2 = .error c) : (cU s).1 = [] := by
  cases s with
  | error c => rfl
  | ok xs =>
    rw [uk] at h ⊢
    cases hp : iF xs with
    | error c => rfl
    | ok p => rw [hp] at h; cases h
theorem yv (b : Lb) (at_ : Nat) : (dU b at_).2.2 < 256 := by
 cases hp : iF (b.drop at_) with
 | error z => rw [lG hp]; exact (xo hp).2
 | ok p => rw [qd (v := p.1) (r := p.2) hp]; exact (by omega : 0 < 256)
theorem FD {k at_ : Nat} {b : Lb} (hat : at_ ≤ b.length) : (dK k (.ok (b.drop at_))).1 = (di k b at_).1 ∧ ((di k b at_).2.2 = 0 → (dK k (.ok (b.drop at_))).2 = .ok (b.drop (di k b at_).2.1) ∧ (di k b at_).2.1 ≤ b.length) ∧ ((di k b at_).2.2 ≠ 0 → dK k (.ok (b.drop at_)) = (0, .error (di k b at_).2.2) ∧ (di k b at_).2.2 < 256) := by
 unfold di
 rw [jQ]
 by_cases h : (b.drop at_).length < k
 ·rw [if_pos h, if_pos h]
  exact ⟨rfl, fun h => absurd h (show ¬ (4 : Nat) = 0 by decide), fun _ => ⟨rfl, show 4 < 256 by omega⟩⟩
 ·rw [if_neg h, if_neg h]
  rw [List.length_drop] at h
  exact ⟨rfl, fun _ => ⟨by rw [List.drop_drop], by show at_ + k ≤ b.length; omega⟩, fun h => absurd rfl h⟩
theorem Cr {at_ : Nat} {b : Lb} (hat : at_ ≤ b.length) : ((cR b at_).2.2 = 0 → fY (.ok (b.drop at_)) = (decide ((cR b at_).1 = 1), .ok (b.drop (cR b at_).2.1)) ∧ (cR b at_).2.1 ≤ b.length) ∧ ((cR b at_).2.2 ≠ 0 → fY (.ok (b.drop at_)) = (false, .error (cR b at_).2.2) ∧ (cR b at_).2.2 < 256) := by
 unfold cR
 by_cases h : b.length ≤ at_
 ·rw [if_pos h]
  refine ⟨fun h => absurd h (show ¬ (4 : Nat) = 0 by decide), fun _ => ⟨?_, show 4 < 256 by omega⟩⟩
  unfold fY
  rw [CH h]
 ·rw [if_neg h]
  have e : fY (.ok (b.drop at_)) = if 1 < (b.getD at_ 0).toNat then (false, .error 3) else (decide ((b.getD at_ 0).toNat = 1), .ok (b.drop (at_ + 1))) := by
   unfold fY
   rw [DD Om]
  by_cases h1 : 1 < (b.getD at_ 0).toNat
  ·rw [if_pos h1] at e ⊢
   exact ⟨fun h => absurd h (show ¬ (3 : Nat) = 0 by decide), fun _ => ⟨e, show 3 < 256 by omega⟩⟩
  ·rw [if_neg h1] at e ⊢
   exact ⟨fun _ => ⟨e, by show at_ + 1 ≤ b.length; omega⟩, fun h => absurd rfl h⟩
def bz (A : Oa) (n c at_ e : Nat) : Array Value := #[.slice A n c, .int .i64 (at_ : Int), .int .i64 (e : Int)]
def wj (A0 : Oa) (n0 : Nat) (b0 : Lb) (cs : Array Value) (s : St) : Prop :=
 ∃ A n c at_ e b, cs = bz A n c at_ e ∧ n ≤ c ∧ n ≤ 1000000 ∧ Sub A0 n0 b0 A n b ∧ b.length = n ∧ ((e = 0 ∧ s = .ok (b.drop at_) ∧ at_ ≤ n) ∨ (e ≠ 0 ∧ e < 256 ∧ s = .error e))
theorem zl {A : Oa} {n c at_ e e' : Nat} {q : Int} (hq : q = (e' : Int)) : (bz A n c at_ e).setIfInBounds 2 (.int .i64 q) = bz A n c at_ e' := by subst hq; rfl
section
variable {A0 : Oa} {n0 : Nat} {b0 : Lb} {cs : Array Value} {s : St}
theorem wj.whole {c0 : Nat} (hc : n0 ≤ c0) (hn : n0 ≤ 1000000) (hl : b0.length = n0) : wj A0 n0 b0 (bz A0 n0 c0 0 0) (.ok b0) := ⟨A0, n0, c0, 0, 0, b0, rfl, hc, hn, fun _ h => h, hl, .inl ⟨rfl, by simp, Nat.zero_le _⟩⟩
theorem nI (k : Nat) (z : Int) (hz : z = (k : Int)) (w : World) (HA : Bs w A0 n0 b0) (H : wj A0 n0 b0 cs s) (hk : k = 1 ∨ k = 2 ∨ k = 4 ∨ k = 8) :
  Ct 118 #[.agg cs, .int .i64 z] w fun r w' => ∃ cs', r = .returned (.tuple #[.int .u64 (((dK k s).1 : Nat) : Int), .agg cs']) ∧ wj A0 n0 b0 cs' (dK k s).2 ∧ Ext w w' := by
 subst hz
 have F := aA.refl [] w
 have KA : Kp w.heap.size [] (fun w => Bs w A0 n0 b0) w := Kp.bs HA (by simp)
 obtain ⟨A, n, c, at_, e, b, rfl, hc, hn, hS, hl, hs⟩ := H
 refine mq (s := 3) 38 func118 rfl rfl rfl underlying167 rfl Kr rfl ?_
 intro _ hret
 refine aU ?_
 intro _ _ B2 _ ex
 have VD := B2.lt
 obtain ⟨F,KA⟩ := ba ex F KA
 refine aU ?_
 intro _ Vy B5 Vx ex
 replace F := F.grow ex Vx
 replace KA := KA.grow ex Vx
 replace B2 := B2.grow ex Vx
 refine aU ?_
 refine al rfl (fun VA => ?_) (fun VA => ?_)
 ·refine aU ?_
  refine bS [(2, [Vy])] Kr 3 rfl ?_; intro VE ex VF
  obtain ⟨F,B2,B5⟩ := bC ex F B2 B5
  refine fO [(0, []), (1, [])] ?_
  refine aU ?_
  refine cy 2 Kr ?_; refine cZ rfl (aL (o := 0) rfl rfl Kr B5 Nb (aS rfl)) rfl ?_
  rintro _ _ ⟨rfl, D, cg⟩
  have ex := aA.one cg
  clear cg
  refine ⟨ex, ?_⟩
  replace F := F.bo ex
  replace B5 := D; clear D
  replace B5 := B5.congr (cs' := bz A n c at_ e) rfl
  refine cF Kr ?_
  refine aU ?_
  refine hret rfl rfl B5 rfl ?_
  obtain ⟨h, _⟩ | ⟨h0, h8, rfl⟩ := hs
  ·exact absurd h Om
  ·exact ⟨_, rfl, ⟨A, n, c, at_, e, b, rfl, hc, hn, hS, hl, .inr ⟨h0, h8, rfl⟩⟩, F.drop Om |>.aD (by simp)⟩
 ·obtain ⟨h0, rfl, hat⟩ : e = 0 ∧ s = .ok (b.drop at_) ∧ at_ ≤ n := by
   rcases hs with h | h
   ·exact h
   ·exact absurd h.1 Om
  subst h0
  obtain ⟨q1, q2, q3⟩ := FD (k := k) (b := b) (at_ := at_) Om
  refine au 9 ?_
  refine ak (aq rfl (cells := cx 0 (k : Int) 0 an) Kr) ?_
  refine aB func186 rfl (yG k _ rfl _ (hS _ KA.out) hn hat hk) ?_
  rintro e _ ⟨rfl, ex⟩
  obtain ⟨F,B2,B5⟩ := bC ex F B2 B5
  refine aU ?_
  intro _ VB B6 Vw ex
  have Vz : Vy < VB := Nat.lt_of_lt_of_le B5.lt Vw
  replace F := F.grow ex Vw
  replace B2 := B2.grow ex Vw
  replace B5 := B5.grow ex Vw
  refine aU ?_
  intro _ D cg
  have ex := aA.one cg
  clear cg
  obtain ⟨F,B2,B5⟩ := mv ex F B2 B5
  replace B6 := D; clear D
  replace B6 := B6.congr (cs' := cx 0 (k : Int) (di k b at_).1 an) rfl
  refine aU ?_
  refine al rfl (fun VC => ?_) (fun VC => ?_)
  ·refine aU ?_
   refine bS [(7, [Vy])] Kr 8 rfl ?_; intro VG ex VH
   obtain ⟨F,B2,B5⟩ := bC ex F B2 B5
   refine fO [(0, []), (1, []), (2, []), (3, []), (4, [])] ?_
   refine aU ?_
   refine iz 5 [] rfl (fun wr (cr : aA ([]) _ wr) => aq rfl (cells := bz A n c at_ (di k b at_).2.2) Kr) ?_
   refine fO [(6, [])] ?_
   refine aU ?_
   refine cy 7 Kr ?_; refine cZ rfl (aL (o := 0) rfl rfl Kr B5 Nb (aS rfl)) rfl ?_
   rintro _ _ ⟨rfl, D, cg⟩
   have ex := aA.one cg
   clear cg
   refine ⟨ex, ?_⟩
   replace F := F.bo ex
   replace B5 := D; clear D
   replace B5 := B5.congr (cs' := bz A n c at_ (di k b at_).2.2) rfl
   refine cF Kr ?_
   refine aU ?_
   refine hret rfl rfl B5 rfl ?_
   obtain ⟨e1, h8⟩ := q3 Om
   rw [e1]
   exact ⟨_, rfl, ⟨A, n, c, at_, _, b, rfl, hc, hn, hS, hl, .inr ⟨by omega, h8, rfl⟩⟩, (F.drop Om).drop Om |>.aD (by simp)⟩
  ·refine aU ?_
   refine bS [(7, [Vy])] Kr 8 rfl ?_; intro VI ex VJ
   obtain ⟨F,B2,B5,B6⟩ := bO ex F B2 B5 B6
   refine fO [(0, []), (1, []), (2, []), (3, []), (4, [])] ?_
   refine aU ?_
   refine iz 5 [] rfl (fun wr (cr : aA ([]) _ wr) => aq rfl (cells := bz A n c (di k b at_).2.1 0) Kr) ?_
   refine fO [(6, [])] ?_
   refine aU ?_
   refine cy 7 Kr ?_; refine cZ rfl (aL (o := 0) rfl rfl Kr B5 Nb (aS rfl)) rfl ?_
   rintro _ _ ⟨rfl, D, cg⟩
   have ex := aA.one cg
   clear cg
   refine ⟨ex, ?_⟩
   replace F := F.bo ex
   replace B5 := D; clear D
   replace B5 := B5.congr (cs' := bz A n c (di k b at_).2.1 0) rfl
   refine cF Kr ?_
   refine aU ?_
   refine hret rfl rfl B5 rfl ?_
   obtain ⟨e1, hle⟩ := q2 Om
   rw [q1, e1]
   exact ⟨_, rfl, ⟨A, n, c, _, 0, b, rfl, hc, hn, hS, hl, .inl ⟨rfl, rfl, by omega⟩⟩, (F.drop Om).drop Om |>.aD (by simp)⟩
theorem jH (k m : Nat) (z u : Int) (hz : z = (k : Int)) (hu : u = (m : Int)) (w : World) (HA : Bs w A0 n0 b0) (H : wj A0 n0 b0 cs s) (hk : k = 1 ∨ k = 2 ∨ k = 4 ∨ k = 8) :
  Ct 117 #[.agg cs, .int .i64 z, .int .u64 u] w fun r w' => ∃ cs', r = .returned (.agg cs') ∧ wj A0 n0 b0 cs' (db k m s) ∧ Ext w w' := by
 have F := aA.refl [] w
 have KA : Kp w.heap.size [] (fun w => Bs w A0 n0 b0) w := Kp.bs HA (by simp)
 have H0 := H
 obtain ⟨A, n, c, at_, e, b, rfl, _⟩ := H
 refine aH (s := 3) 25 func117 rfl rfl rfl underlying167 rfl Kr rfl ?_
 intro _ hret
 refine aU ?_
 intro _ _ B3 _ ex
 have VE := B3.lt
 obtain ⟨F,KA⟩ := ba ex F KA
 refine aU ?_
 intro _ VB B6 Vy ex
 replace F := F.grow ex Vy
 replace KA := KA.grow ex Vy
 replace B3 := B3.grow ex Vy
 refine aU ?_
 refine aB func118 rfl (nI k z hz _ KA.out H0 hk) ?_
 rintro e _ ⟨_, rfl, P1, ex⟩
 obtain ⟨F,B6⟩ := ba ex F B6
 obtain ⟨A', n', c', Vw, e', b', rfl, hc, hn, hS, hl, hs⟩ := P1
 refine aU ?_
 intro _ VC B8 Vz ex
 have VA : VB < VC := Nat.lt_of_lt_of_le B6.lt Vz
 replace F := F.grow ex Vz
 replace B6 := B6.grow ex Vz
 refine aU ?_
 intro _ D cg
 have ex := aA.one cg
 clear cg
 obtain ⟨F,B6⟩ := gA ex F B6
 replace B8 := D; clear D
 replace B8 := B8.congr (cs' := bz A' n' c' Vw e') rfl
 refine au 7 ?_
 refine aR (cL rfl rfl) rfl (fun he => ?_) (fun he => ?_)
 ·refine aU ?_
  refine al rfl (fun VD => ?_) (fun VD => ?_)
  ·obtain ⟨_, hs, hat⟩ : e' = 0 ∧ (dK k s).2 = .ok (b'.drop Vw) ∧ Vw ≤ n' := by
    rcases hs with h | h
    ·exact h
    ·exact absurd h.1 Om
   refine aU ?_
   intro _ D cg
   have ex := aA.one cg
   clear cg
   obtain ⟨F,B6⟩ := gA ex F B6
   replace B8 := D; clear D
   replace B8 := B8.congr (zl (e' := 3) rfl)
   refine aU ?_
   intro Vx D cg
   have ex := aA.one cg
   clear cg
   replace F := F.bo ex
   replace B6 := D; clear D
   replace B6 := B6.congr (cs' := bz A' n' c' Vw 3) rfl
   refine aU ?_
   refine hret rfl B6 rfl ?_
   rw [Aw Om, hs]
   exact ⟨_, rfl, ⟨A', n', c', Vw, 3, b', rfl, hc, hn, hS, hl, .inr ⟨by omega, by omega, rfl⟩⟩, (F.drop Om).drop Om |>.aD (by simp)⟩
  ·obtain ⟨_, hs, hat⟩ : e' = 0 ∧ (dK k s).2 = .ok (b'.drop Vw) ∧ Vw ≤ n' := by
    rcases hs with h | h
    ·exact h
    ·exact absurd h.1 Om
   refine aU ?_
   intro Vx D cg
   have ex := aA.one cg
   clear cg
   replace F := F.bo ex
   replace B6 := D; clear D
   replace B6 := B6.congr (cs' := bz A' n' c' Vw e') rfl
   refine aU ?_
   refine hret rfl B6 rfl ?_
   rw [AS Om, hs]
   exact ⟨_, rfl, ⟨A', n', c', Vw, e', b', rfl, hc, hn, hS, hl, .inl ⟨by omega, rfl, hat⟩⟩, (F.drop Om).drop Om |>.aD (by simp)⟩
 ·refine au 7 ?_
  refine aX rfl rfl ?_
  refine aU ?_
  intro Vx D cg
  have ex := aA.one cg
  clear cg
  replace F := F.bo ex
  replace B6 := D; clear D
  replace B6 := B6.congr (cs' := bz A' n' c' Vw e') rfl
  refine aU ?_
  refine hret rfl B6 rfl ?_
  obtain ⟨h, _⟩ | ⟨h0, h8, hs⟩ := hs
  ·exact absurd h Om
  ·have ej : db k m s = .error e' := by unfold db; rw [hs]
   rw [ej]
   exact ⟨_, rfl, ⟨A', n', c', Vw, e', b', rfl, hc, hn, hS, hl, .inr ⟨h0, h8, rfl⟩⟩, (F.drop Om).drop Om |>.aD (by simp)⟩
theorem fS (w : World) (HA : Bs w A0 n0 b0) (H : wj A0 n0 b0 cs s) :
  Ct 113 #[.agg cs] w fun r w' => ∃ (h : Hd) (cs' : Array Value), r = .returned (.tuple #[.slice h.A h.n h.c, .agg cs']) ∧ Sub A0 n0 b0 h.A h.n (cU s).1 ∧ (cU s).1.length = h.n ∧ h.n ≤ h.c ∧ h.n ≤ 1000000 ∧ wj A0 n0 b0 cs' (cU s).2 ∧ Ext w w' := by
 have F := aA.refl [] w
 have KA : Kp w.heap.size [] (fun w => Bs w A0 n0 b0) w := Kp.bs HA (by simp)
 obtain ⟨A, n, c, at_, e, b, rfl, hc, hn, hS, hl, hs⟩ := H
 refine mq (s := 3) 35 func113 rfl rfl rfl underlying167 rfl Kr rfl ?_
 intro _ hret
 refine aU ?_
 intro _ _ B1 _ ex
 have VD := B1.lt
 obtain ⟨F,KA⟩ := ba ex F KA
 refine aU ?_
 intro _ Vy B3 Vx ex
 replace F := F.grow ex Vx
 replace KA := KA.grow ex Vx
 replace B1 := B1.grow ex Vx
 refine aU ?_
 refine al rfl (fun VA => ?_) (fun VA => ?_)
 ·refine aU ?_
  refine bS [(2, [Vy])] Kr 3 rfl ?_; intro VE ex VF
  obtain ⟨F,B1,B3⟩ := bC ex F B1 B3
  refine fO [(0, []), (1, [])] ?_
  refine aU ?_
  refine cy 2 Kr ?_; refine cZ rfl (aL (o := 0) rfl rfl Kr B3 Nb (aS rfl)) rfl ?_
  rintro _ _ ⟨rfl, D, cg⟩
  have ex := aA.one cg
  clear cg
  refine ⟨ex, ?_⟩
  replace F := F.bo ex
  replace B3 := D; clear D
  replace B3 := B3.congr (cs' := bz A n c at_ e) rfl
  refine cF Kr ?_
  refine aU ?_
  refine hret rfl rfl B3 rfl ?_
  obtain ⟨h, _⟩ | ⟨h0, h8, rfl⟩ := hs
  ·exact absurd h Om
  ·exact ⟨an, _, rfl, Sub.nil _ _ _, rfl, Nat.le_refl _, Nat.zero_le _, ⟨A, n, c, at_, e, b, rfl, hc, hn, hS, hl, .inr ⟨h0, h8, rfl⟩⟩, F.drop Om |>.aD (by simp)⟩
 ·obtain ⟨h0, rfl, hat⟩ : e = 0 ∧ s = .ok (b.drop at_) ∧ at_ ≤ n := by
   rcases hs with h | h
   ·exact h
   ·exact absurd h.1 Om
  subst h0
  obtain ⟨q1, q2, q3⟩ := Ia (b := b) (at_ := at_) Om
  have hvl := (AL (.ok (b.drop at_))).1
  have hsl : pj (.ok (b.drop at_)) = n - at_ := by show (b.drop at_).length = _; rw [List.length_drop, hl]
  refine au 8 ?_
  refine ak (aq rfl (cells := cx 1 0 0 an) Kr) ?_
  refine aB func186 rfl (zn _ (hS _ KA.out) hc hn hat) ?_
  rintro e _ ⟨h, rfl, hsub, hcap, ex⟩
  obtain ⟨F,KA,B1,B3⟩ := bO ex F KA B1 B3
  have hhl : (dU b at_).1.length = h.n := (hsub _ (hS _ KA.out)).1
  refine aU ?_
  intro _ VB B4 Vw ex
  have Vz : Vy < VB := Nat.lt_of_lt_of_le B3.lt Vw
  replace F := F.grow ex Vw
  replace B1 := B1.grow ex Vw
  replace B3 := B3.grow ex Vw
  refine aU ?_
  intro _ D cg
  have ex := aA.one cg
  clear cg
  obtain ⟨F,B1,B3⟩ := mv ex F B1 B3
  replace B4 := D; clear D
  replace B4 := B4.congr (cs' := cx 1 0 0 h) rfl
  refine aU ?_
  refine al rfl (fun VC => ?_) (fun VC => ?_)
  ·refine aU ?_
   refine bS [(7, [Vy])] Kr 8 rfl ?_; intro VG ex VH
   obtain ⟨F,B1,B3⟩ := bC ex F B1 B3
   refine fO [(0, []), (1, []), (2, []), (3, []), (4, [])] ?_
   refine aU ?_
   refine iz 5 [] rfl (fun wr (cr : aA ([]) _ wr) => aq rfl (cells := bz A n c at_ (dU b at_).2.2) Kr) ?_
   refine fO [(6, [])] ?_
   refine aU ?_
   refine cy 7 Kr ?_; refine cZ rfl (aL (o := 0) rfl rfl Kr B3 Nb (aS rfl)) rfl ?_
   rintro _ _ ⟨rfl, D, cg⟩
   have ex := aA.one cg
   clear cg
   refine ⟨ex, ?_⟩
   replace F := F.bo ex
   replace B3 := D; clear D
   replace B3 := B3.congr (cs' := bz A n c at_ (dU b at_).2.2) rfl
   refine cF Kr ?_
   refine aU ?_
   refine hret rfl rfl B3 rfl ?_
   have e1 := q3 Om
   have e2 : (cU (.ok (b.drop at_))).1 = [] := DX e1
   have h8 := yv b at_
   rw [e1, e2]
   exact ⟨an, _, rfl, Sub.nil _ _ _, rfl, Nat.le_refl _, Nat.zero_le _, ⟨A, n, c, at_, _, b, rfl, hc, hn, hS, hl, .inr ⟨by omega, h8, rfl⟩⟩, (F.drop Om).drop Om |>.aD (by simp)⟩
  ·refine aU ?_
   refine bS [(7, [Vy])] Kr 8 rfl ?_; intro VI ex VJ
   obtain ⟨F,B1,B3,B4⟩ := bO ex F B1 B3 B4
   refine fO [(0, []), (1, []), (2, []), (3, []), (4, [])] ?_
   refine aU ?_
   refine iz 5 [] rfl (fun wr (cr : aA ([]) _ wr) => aq rfl (cells := bz A n c (dU b at_).2.1 0) Kr) ?_
   refine fO [(6, [])] ?_
   refine aU ?_
   refine cy 7 Kr ?_; refine cZ rfl (aL (o := 0) rfl rfl Kr B3 Nb (aS rfl)) rfl ?_
   rintro _ _ ⟨rfl, D, cg⟩
   have ex := aA.one cg
   clear cg
   refine ⟨ex, ?_⟩
   replace F := F.bo ex
   replace B3 := D; clear D
   replace B3 := B3.congr (cs' := bz A n c (dU b at_).2.1 0) rfl
   refine cF Kr ?_
   refine aU ?_
   refine hret rfl rfl B3 rfl ?_
   obtain ⟨e1, hle⟩ := q2 Om
   rw [e1, q1]
   exact ⟨h, _, rfl, fun w hw => hsub w (hS w hw), hhl, hcap, by rw [q1] at hvl; omega, ⟨A, n, c, _, 0, b, rfl, hc, hn, hS, hl, .inl ⟨rfl, rfl, by omega⟩⟩, (F.drop Om).drop Om |>.aD (by simp)⟩
theorem zK (w : World) (HA : Bs w A0 n0 b0) (H : wj A0 n0 b0 cs s) :
  Ct 114 #[.agg cs] w fun r w' => ∃ cs', r = .returned (.tuple #[.bool (fY s).1, .agg cs']) ∧ wj A0 n0 b0 cs' (fY s).2 ∧ Ext w w' := by
 have F := aA.refl [] w
 have KA : Kp w.heap.size [] (fun w => Bs w A0 n0 b0) w := Kp.bs HA (by simp)
 obtain ⟨A, n, c, at_, e, b, rfl, hc, hn, hS, hl, hs⟩ := H
 refine mq (s := 3) 36 func114 rfl rfl rfl underlying167 rfl Kr rfl ?_
 intro _ hret
 refine aU ?_
 intro _ _ B1 _ ex
 have VD := B1.lt
 obtain ⟨F,KA⟩ := ba ex F KA
 refine aU ?_
 intro _ Vy B3 Vx ex
 replace F := F.grow ex Vx
 replace KA := KA.grow ex Vx
 replace B1 := B1.grow ex Vx
 refine aU ?_
 refine al rfl (fun VA => ?_) (fun VA => ?_)
 ·refine aU ?_
  refine bS [(2, [Vy])] Kr 3 rfl ?_; intro VE ex VF
  obtain ⟨F,B1,B3⟩ := bC ex F B1 B3
  refine fO [(0, []), (1, [])] ?_
  refine aU ?_
  refine cy 2 Kr ?_; refine cZ rfl (aL (o := 0) rfl rfl Kr B3 Nb (aS rfl)) rfl ?_
  rintro _ _ ⟨rfl, D, cg⟩
  have ex := aA.one cg
  clear cg
  refine ⟨ex, ?_⟩
  replace F := F.bo ex
  replace B3 := D; clear D
  replace B3 := B3.congr (cs' := bz A n c at_ e) rfl
  refine cF Kr ?_
  refine aU ?_
  refine hret rfl rfl B3 rfl ?_
  obtain ⟨h, _⟩ | ⟨h0, h8, rfl⟩ := hs
  ·exact absurd h Om
  ·exact ⟨_, rfl, ⟨A, n, c, at_, e, b, rfl, hc, hn, hS, hl, .inr ⟨h0, h8, rfl⟩⟩, F.drop Om |>.aD (by simp)⟩
 ·obtain ⟨h0, rfl, hat⟩ : e = 0 ∧ s = .ok (b.drop at_) ∧ at_ ≤ n := by
   rcases hs with h | h
   ·exact h
   ·exact absurd h.1 Om
  subst h0
  obtain ⟨q2, q3⟩ := Cr (b := b) (at_ := at_) Om
  refine au 8 ?_
  refine ak (aq rfl (cells := cx 3 0 0 an) Kr) ?_
  refine aB func186 rfl (zF _ (hS _ KA.out) hn hat) ?_
  rintro e _ ⟨rfl, ex⟩
  obtain ⟨F,B1,B3⟩ := bC ex F B1 B3
  refine aU ?_
  intro _ VB B4 Vw ex
  have Vz : Vy < VB := Nat.lt_of_lt_of_le B3.lt Vw
  replace F := F.grow ex Vw
  replace B1 := B1.grow ex Vw
  replace B3 := B3.grow ex Vw
  refine aU ?_
  intro _ D cg
  have ex := aA.one cg
  clear cg
  obtain ⟨F,B1,B3⟩ := mv ex F B1 B3
  replace B4 := D; clear D
  replace B4 := B4.congr (cs' := cx 3 0 (cR b at_).1 an) rfl
  refine aU ?_
  refine al rfl (fun VC => ?_) (fun VC => ?_)
  ·refine aU ?_
   refine bS [(7, [Vy])] Kr 8 rfl ?_; intro VG ex VH
   obtain ⟨F,B1,B3⟩ := bC ex F B1 B3
   refine fO [(0, []), (1, []), (2, []), (3, []), (4, [])] ?_
   refine aU ?_
   refine iz 5 [] rfl (fun wr (cr : aA ([]) _ wr) => aq rfl (cells := bz A n c at_ (cR b at_).2.2) Kr) ?_
   refine fO [(6, [])] ?_
   refine aU ?_
   refine cy 7 Kr ?_; refine cZ rfl (aL (o := 0) rfl rfl Kr B3 Nb (aS rfl)) rfl ?_
   rintro _ _ ⟨rfl, D, cg⟩
   have ex := aA.one cg
   clear cg
   refine ⟨ex, ?_⟩
   replace F := F.bo ex
   replace B3 := D; clear D
   replace B3 := B3.congr (cs' := bz A n c at_ (cR b at_).2.2) rfl
   refine cF Kr ?_
   refine aU ?_
   refine hret rfl rfl B3 rfl ?_
   obtain ⟨e1, h8⟩ := q3 Om
   rw [e1]
   exact ⟨_, rfl, ⟨A, n, c, at_, _, b, rfl, hc, hn, hS, hl, .inr ⟨by omega, h8, rfl⟩⟩, (F.drop Om).drop Om |>.aD (by simp)⟩
  ·refine aU ?_
   refine bS [(8, [Vy])] Kr 9 rfl ?_; intro VI ex VJ
   obtain ⟨F,B1,B3,B4⟩ := bO ex F B1 B3 B4
   refine fO [(0, []), (1, []), (2, []), (3, []), (4, []), (5, [])] ?_
   refine aU ?_
   refine iz 6 [] rfl (fun wr (cr : aA ([]) _ wr) => aq rfl (cells := bz A n c (cR b at_).2.1 0) Kr) ?_
   refine fO [(7, [])] ?_
   refine aU ?_
   refine cy 8 Kr ?_; refine cZ rfl (aL (o := 0) rfl rfl Kr B3 Nb (aS rfl)) rfl ?_
   rintro _ _ ⟨rfl, D, cg⟩
   have ex := aA.one cg
   clear cg
   refine ⟨ex, ?_⟩
   replace F := F.bo ex
   replace B3 := D; clear D
   replace B3 := B3.congr (cs' := bz A n c (cR b at_).2.1 0) rfl
   refine cF Kr ?_
   refine aU ?_
   refine hret rfl rfl B3 rfl ?_
   obtain ⟨e1, hle⟩ := q2 Om
   rw [e1]
   have eb : decide ((((cR b at_).1 : Nat) : Int) = 1) = decide ((cR b at_).1 = 1) := decide_eq_decide.2 Om
   exact ⟨bz A n c (cR b at_).2.1 0, by show _ = Ending.returned (.tuple #[.bool (decide ((cR b at_).1 = 1)), .agg (bz A n c (cR b at_).2.1 0)]); rw [← eb], ⟨A, n, c, _, 0, b, rfl, hc, hn, hS, hl, .inl ⟨rfl, rfl, by omega⟩⟩, (F.drop Om).drop Om |>.aD (by simp)⟩
theorem oy (w : World) (H : wj A0 n0 b0 cs s) : Ct 115 #[.agg cs] w fun r w' => r = .returned (.int .i64 ((eo s : Nat) : Int)) ∧ Ext w w' := by
 have E := Ext.refl w
 obtain ⟨A, n, c, at_, e, b, rfl, hc, hn, hS, hl, hs⟩ := H
 refine ai 16 func115 rfl rfl rfl rfl ?_
 intro _ hret
 refine aU ?_
 intro _ _ _ _ ex
 replace E := E.ext ex
 refine au 8 ?_
 refine aR (cL rfl rfl) rfl (fun he => ?_) (fun he => ?_)
 ·refine aU ?_
  refine al rfl (fun Vw => ?_) (fun Vw => ?_)
  ·obtain ⟨_, rfl, hat⟩ : e = 0 ∧ s = .ok (b.drop at_) ∧ at_ ≤ n := by
    rcases hs with h | h
    ·exact h
    ·exact absurd h.1 Om
   have hq := tp (b := b) (k := at_)
   refine aU ?_
   refine hret rfl ?_
   rw [hq, if_pos Om]
   exact ⟨rfl, E⟩
  ·obtain ⟨_, rfl, hat⟩ : e = 0 ∧ s = .ok (b.drop at_) ∧ at_ ≤ n := by
    rcases hs with h | h
    ·exact h
    ·exact absurd h.1 Om
   have hq := tp (b := b) (k := at_)
   refine aU ?_
   refine hret rfl ?_
   rw [hq, if_neg Om, show e = 0 by omega]
   exact ⟨rfl, E⟩
 ·refine au 10 ?_
  refine aX rfl rfl ?_
  refine aU ?_
  refine hret rfl ?_
  obtain ⟨h, _⟩ | ⟨h0, h8, rfl⟩ := hs
  ·exact absurd h Om
  ·exact ⟨rfl, E⟩
end
end
end Go.Proofs.YtgfafidlkldeaaaGreat
