/- Bytes that are taken by wire's reader: what each of its functions hands back and leaves. Lengths and vectors that are taken by wire's reader. The reference's lengths, vectors, numbers and flags at a place of bytes. -/
import Derived.Test.YtgfafidlkldeaaaGreatVs
import Derived.Test.YtgfafidlkldeaaaGreatBigC
import Derived.Test.YtgfafidlkldeaaaGreatAu
set_option linter.unusedVariables false
set_option linter.unusedSimpArgs false
set_option maxHeartbeats 4000000
set_option maxRecDepth 4000
namespace Go.Proofs.YtgfafidlkldeaaaGreat
section
open Go.RowKit Tryz
attribute [local irreducible] Y Ef WL WC WK WQ WM cE WN WF dc
namespace Wire
def nb (xs : Lb) : Nat := xs.foldl (fun a x => a * 256 + x.toNat) 0
theorem JA (xs : Lb) (x : UInt8) : nb (xs ++ [x]) = nb xs * 256 + x.toNat := by simp [nb]
theorem uB : ∀ (xs : Lb) (a : Nat), xs.foldl (fun a x => a * 256 + x.toNat) a = a * 256 ^ xs.length + nb xs
  | [], a => by simp [nb]
  | x :: xs, a => by
    have h1 := uB xs (a * 256 + x.toNat)
    have h2 := uB xs (0 * 256 + x.toNat)
    unfold nb
    rw [List.foldl_cons, List.foldl_cons, h1, h2, List.length_cons, Nat.pow_succ]
    grind
theorem zS (x : UInt8) (xs : Lb) : nb (x :: xs) = x.toNat * 256 ^ xs.length + nb xs := by
 have h := uB xs (0 * 256 + x.toNat)
 rw [show (0 * 256 + x.toNat) * 256 ^ xs.length = x.toNat * 256 ^ xs.length by rw [Nat.zero_mul, Nat.zero_add]] at h
 exact h
theorem si : ∀ xs : List UInt8, nb xs < 256 ^ xs.length
  | [] => by simp [nb]
  | x :: xs => by
    have ih := si xs
    have hx := UInt8.toNat_lt x
    rw [zS, List.length_cons, Nat.pow_succ]
    have : x.toNat * 256 ^ xs.length ≤ 255 * 256 ^ xs.length := Nat.mul_le_mul_right _ Om
    omega
theorem eJ {xs : Lb} {k : Nat} (h : k < xs.length) : nb (xs.take (k + 1)) = nb (xs.take k) * 256 + (xs.getD k 0).toNat := by
 rw [List.take_succ_eq_append_getElem h, JA]
 simp [h]
abbrev St := Except Nat (List UInt8)
def bW : St → Nat
 | .ok _ => 0
 | .error c => c
def tk (xs : Lb) (e : Nat) (z : Int) : List UInt8 × Bool × List UInt8 × Nat :=
 if e ≠ 0 then ([], false, xs, e) else if z < 0 then ([], false, xs, 1) else if (xs.length : Int) < z then ([], false, xs, 4) else (xs.take z.toNat, true, xs.drop z.toNat, 0)
def iO : List UInt8 → Except Nat (Nat × List UInt8)
  | [] => .error 4
  | b :: r =>
    if 192 ≤ b.toNat then .error 3
    else
      let s := if b.toNat < 64 then 1 else if b.toNat < 128 then 2 else 4
      if r.length < s - 1 then .error 4
      else
        let n := nb (UInt8.ofNat (b.toNat % 64) :: r.take (s - 1))
        if iM n = s then .ok (n, r.drop (s - 1)) else .error 3
def iF (xs : Lb) : Except Nat (List UInt8 × List UInt8) :=
 match iO xs with
 | .error c => .error c
 | .ok (n, r) => if r.length < n then .error 4 else .ok (r.take n, r.drop n)
def Na (k : Nat) (xs : Lb) : Except Nat (Nat × List UInt8) := if xs.length < k then .error 4 else .ok (nb (xs.take k), xs.drop k)
def nK : St → (Nat × Bool) × St
  | .error c => ((0, false), .error c)
  | .ok xs => match iO xs with
    | .error c => ((0, false), .error c)
    | .ok (n, r) => ((n, true), .ok r)
def cU : St → List UInt8 × St
  | .error c => ([], .error c)
  | .ok xs => match iF xs with
    | .error c => ([], .error c)
    | .ok (v, r) => (v, .ok r)
def dK (k : Nat) : St → Nat × St
  | .error c => (0, .error c)
  | .ok xs => match Na k xs with
    | .error c => (0, .error c)
    | .ok (v, r) => (v, .ok r)
theorem jQ (k : Nat) (xs : Lb) : dK k (.ok xs) = if xs.length < k then (0, .error 4) else (nb (xs.take k), .ok (xs.drop k)) := by
 show (match Na k xs with
  | .error c => ((0, .error c) : Nat × St)
  | .ok (v, r) => (v, .ok r)) = _
 unfold Na
 by_cases h : xs.length < k
 ·rw [if_pos h, if_pos h]
 ·rw [if_neg h, if_neg h]
def eo : St → Nat
 | .error c => c
 | .ok [] => 0
 | .ok (_ :: _) => 5
end Wire
open Wire
def Mv (A : Oa) (n c e : Nat) : Array Value := #[.slice A n c, .int .u8 (e : Int)]
def Rd (N : Nat) (S : List Nat) (w : World) (g : Nat) (xs : Lb) (e : Nat) : Prop := ∃ A n c, ao w g 263 (Mv A n c e) ∧ n ≤ c ∧ g ∈ S ∧ Kp N S (fun w => Bs w A n xs) w
def Rs (N : Nat) (S : List Nat) (w : World) (g : Nat) : St → Prop
 | .ok xs => Rd N S w g xs 0
 | .error c => c ≠ 0 ∧ c < 256 ∧ ∃ xs, Rd N S w g xs c
section
variable {N : Nat} {S S' : List Nat} {w w' : World} {g k e : Nat} {xs : Lb} {s : St}
theorem Rd.lt (h : Rd N S w g xs e) : g < w.heap.size := by obtain ⟨A, n, c, B, _⟩ := h; exact B.lt
theorem Rd.mem (h : Rd N S w g xs e) : g ∈ S := by obtain ⟨A, n, c, _, _, m, _⟩ := h; exact m
theorem Rd.ext (h : Rd N S w g xs e) (E : Ext w w') : Rd N S w' g xs e := by obtain ⟨A, n, c, B, hc, m, K⟩ := h; exact ⟨A, n, c, B.ext E, hc, m, K.ext E⟩
theorem Rd.grow (h : Rd N S w g xs e) (E : Ext w w') (hk : w.heap.size ≤ k) : Rd N (k :: S) w' g xs e := by obtain ⟨A, n, c, B, hc, m, K⟩ := h; exact ⟨A, n, c, B.ext E, hc, List.mem_cons_of_mem _ m, K.grow E hk⟩
theorem Rd.bo (h : Rd N S w g xs e) (C : aA S' w w') (hs : ∀ k ∈ S', k ∈ S := by first | (simp; done) | (simp; assumption)) (hg : g ∉ S' := by first | (simp; done) | (simp; omega)) : Rd N S w' g xs e := by
 obtain ⟨A, n, c, B, hc, m, K⟩ := h; exact ⟨A, n, c, B.bo C hg, hc, m, K.bo C hs⟩
theorem Rd.mono (h : Rd N S w g xs e) (hs : ∀ k ∈ S', k ∈ S) (hg : g ∈ S') : Rd N S' w g xs e := by obtain ⟨A, n, c, B, hc, m, K⟩ := h; exact ⟨A, n, c, B, hc, hg, K.mono hs⟩
theorem Rs.ext (h : Rs N S w g s) (E : Ext w w') : Rs N S w' g s := by
 cases s with
 | ok xs => exact Rd.ext h E
 | error c => obtain ⟨h1, h2, xs, h⟩ := h; exact ⟨h1, h2, xs, h.ext E⟩
theorem Rs.grow (h : Rs N S w g s) (E : Ext w w') (hk : w.heap.size ≤ k) : Rs N (k :: S) w' g s := by
 cases s with
 | ok xs => exact Rd.grow h E hk
 | error c => obtain ⟨h1, h2, xs, h⟩ := h; exact ⟨h1, h2, xs, h.grow E hk⟩
theorem Rs.bo (h : Rs N S w g s) (C : aA S' w w') (hs : ∀ k ∈ S', k ∈ S := by first | (simp; done) | (simp; assumption)) (hg : g ∉ S' := by first | (simp; done) | (simp; omega)) : Rs N S w' g s := by
 cases s with
 | ok xs => exact Rd.bo h C hs hg
 | error c => obtain ⟨h1, h2, xs, h⟩ := h; exact ⟨h1, h2, xs, h.bo C hs hg⟩
theorem Rs.mono (h : Rs N S w g s) (hs : ∀ k ∈ S', k ∈ S) (hg : g ∈ S') : Rs N S' w g s := by
 cases s with
 | ok xs => exact Rd.mono h hs hg
 | error c => obtain ⟨h1, h2, xs, h⟩ := h; exact ⟨h1, h2, xs, h.mono hs hg⟩
theorem Rs.lt (h : Rs N S w g s) : g < w.heap.size := by
 cases s with
 | ok xs => exact Rd.lt h
 | error c => obtain ⟨h1, h2, xs, h⟩ := h; exact h.lt
theorem Rs.mem (h : Rs N S w g s) : g ∈ S := by
 cases s with
 | ok xs => exact Rd.mem h
 | error c => obtain ⟨h1, h2, xs, h⟩ := h; exact h.mem
theorem Rs.rd (h : Rs N S w g s) : ∃ xs, Rd N S w g xs (bW s) ∧ bW s < 256 ∧ (s = .ok xs ∨ (bW s ≠ 0 ∧ s = .error (bW s))) := by
 cases s with
 | ok xs => exact ⟨xs, h, by show 0 < 256; omega, .inl rfl⟩
 | error c => obtain ⟨h1, h2, xs, h⟩ := h; exact ⟨xs, h, h2, .inr ⟨h1, rfl⟩⟩
end
theorem Fb.kk {S : List Nat} {w : World} {A : Oa} {n base : Nat} {xs : Lb} (h : Fb base w A n xs) (hS : ∀ g ∈ S, g < base) : Kp w.heap.size S (fun w => Fb base w A n xs) w := (h.kp hS).map fun _ hb => ⟨hb, h.2⟩
theorem wD (A : Oa) (n c e : Nat) : (Mv A n c e).size = 2 := rfl
theorem Jv (A : Oa) (n c e e' : Nat) {z : Int} (hz : z = (e' : Int)) : (Mv A n c e).setIfInBounds 1 (.int .u8 z) = Mv A n c e' := by subst hz; rfl
theorem La (A A' : Oa) (n c n' c' e : Nat) : (Mv A n c e).setIfInBounds 0 (.slice A' n' c') = Mv A' n' c' e := rfl
theorem rC {N : Nat} {S : List Nat} (A : Oa) (n c : Nat) (xs : Lb) (w : World) (hc : n ≤ c) (K : Kp N S (fun w => Bs w A n xs) w) :
  Ct 172 #[.slice A n c] w fun e w' => ∃ g, e = .returned (.pointer (some ⟨g, 0, none⟩)) ∧ w.heap.size ≤ g ∧ Rs N (g :: S) w' g (.ok xs) ∧ Ext w w' := by
 refine ai 6 func172 rfl rfl rfl rfl ?_
 intro _ hret
 refine au 8 ?_
 refine ak (aq rfl (cells := Mv A n c 0) Kr) ?_
 refine aU ?_
 intro _ g1 B1 Vw ex
 refine aU ?_
 refine hret rfl ?_
 exact ⟨g1, rfl, Vw, ⟨A, n, c, B1, hc, List.mem_cons_self, K.grow ex Vw⟩, ex⟩
theorem jf {N : Nat} {S : List Nat} {g : Nat} {xs : Lb} (c : Nat) (z : Int) (hz : z = (c : Int)) (w : World) (H : Rd N S w g xs 0) :
  Ct 224 #[.pointer (some ⟨g, 0, none⟩), .int .u8 z] w fun e w' => e = .returned (.tuple #[]) ∧ Rd N S w' g xs c ∧ aA [g] w w' := by
 obtain ⟨A, n, d, B, hd, m, K⟩ := H
 refine fp 13 func224 rfl rfl rfl rfl ?_
 intro _ hret
 refine au 15 ?_
 refine ag (av rfl rfl rfl Kr B (by rw [wD]; omega)) rfl ?_
 rintro _ _ ⟨rfl, D, cg⟩
 have ex := aA.one cg
 rw [Jv A n d 0 c hz] at D; replace K := K.bo ex (by simpa using m)
 refine aU ?_
 refine hret (.inr rfl) ?_
 exact ⟨rfl, ⟨A, n, d, D, hd, m, K⟩, ex⟩
theorem jo {N : Nat} {S : List Nat} {g e : Nat} {xs : Lb} (z : Int) (w : World) (he : e < 256) (H : Rd N S w g xs e) :
  Ct 223 #[.pointer (some ⟨g, 0, none⟩), .int .i64 z] w fun r w' => ∃ A n c, r = .returned (.tuple #[.slice A n c, .bool (tk xs e z).2.1]) ∧ n ≤ c ∧ Kp N S (fun w => Bs w A n (tk xs e z).1) w' ∧ Rd N S w' g (tk xs e z).2.2.1 (tk xs e z).2.2.2 ∧ aA [g] w w' := by
 have H0 := H
 obtain ⟨A, n, d, B, hd, m, K⟩ := H
 have hxl : xs.length = n := K.out.1
 refine bu 48 func223 rfl rfl rfl rfl ?_
 intro _ hret
 refine au 11 ?_
 refine ak (Y.as (GB rfl rfl Tn.u) (show Value.bool _ = .bool false from rfl)) ?_
 refine au 5 ?_
 refine aJ 10 rfl rfl (iY rfl rfl) rfl (fun h1 => ?_) (fun h1 => ?_)
 ·refine au 4 ?_
  refine bR rfl rfl ?_
  refine aU ?_
  refine hret rfl rfl ?_
  have Vw := K.1
  have ht : tk xs e z = ([], false, xs, e) := by unfold tk; rw [if_pos Om]
  rw [ht]
  exact ⟨none, 0, 0, rfl, Nat.le_refl _, Kp.nil _ _ Vw, H0, aA.refl _ _⟩
 ·refine au 4 ?_
  refine aX rfl rfl ?_
  obtain rfl : e = 0 := by omega
  refine au 3 ?_
  refine aR (dA rfl rfl) rfl (fun h2 => ?_) (fun h2 => ?_)
  ·refine au 3 ?_
   refine bR rfl rfl ?_
   refine aU ?_
   refine aB func224 rfl (jf 1 1 rfl _ H0) ?_
   rintro e w1 ⟨rfl, H1, ex⟩
   refine aU ?_
   refine hret rfl rfl ?_
   have Vw := Nat.le_trans K.1 ex.size
   have ht : tk xs 0 z = ([], false, xs, 1) := by unfold tk; rw [if_neg Om, if_pos h2]
   rw [ht]
   exact ⟨none, 0, 0, rfl, Nat.le_refl _, Kp.nil _ _ Vw, H1, ex⟩
  ·refine au 3 ?_
   refine aX rfl rfl ?_
   refine au 8 ?_
   refine aR (gd rfl rfl) rfl (fun h3 => ?_) (fun h3 => ?_)
   ·refine au 3 ?_
    refine bR rfl rfl ?_
    refine aU ?_
    refine aB func224 rfl (jf 4 4 rfl _ H0) ?_
    rintro e w1 ⟨rfl, H1, ex⟩
    refine aU ?_
    refine hret rfl rfl ?_
    have Vw := Nat.le_trans K.1 ex.size
    have ht : tk xs 0 z = ([], false, xs, 4) := by unfold tk; rw [if_neg Om, if_neg h2, if_pos Om]
    rw [ht]
    exact ⟨none, 0, 0, rfl, Nat.le_refl _, Kp.nil _ _ Vw, H1, ex⟩
   ·refine au 3 ?_
    refine aX rfl rfl ?_
    obtain ⟨k, rfl⟩ : ∃ k : Nat, z = k := Int.eq_ofNat_of_zero_le Om
    have hkn : k ≤ n := by omega
    refine au 10 ?_
    refine ak (kv (s := 1) rfl rfl Tn.u Kr (j := k) rfl Om) ?_
    refine au 11 ?_
    refine ak (nO (s := 1) rfl rfl Tn.u Kr (j := k) rfl Om) ?_
    refine au 2 ?_
    refine ag (av rfl rfl rfl Kr B (by rw [wD]; omega)) rfl ?_
    rintro _ w1 ⟨rfl, D, cg⟩
    have ex := aA.one cg
    rw [La] at D; replace K := K.bo ex (by simpa using m)
    refine aU ?_
    refine hret rfl rfl ?_
    have ht : tk xs 0 (k : Int) = (xs.take k, true, xs.drop k, 0) := by unfold tk; rw [if_neg Om, if_neg h2, if_neg Om]; rfl
    rw [ht]
    exact ⟨A, k, d, rfl, by omega, K.map fun _ h => h.take hkn, ⟨_, _, _, D, by omega, m, K.map fun _ h => h.j6 hkn hd⟩, ex⟩
theorem Gj {q : Nat} (h : q < 72057594037927936) : IntKind.u64.wrap ((q : Int) * 2 ^ min (8 : Int).toNat IntKind.u64.bits) = ((q * 256 : Nat) : Int) := by
 have e : min (8 : Int).toNat IntKind.u64.bits = 8 := rfl
 rw [e]
 exact IntWalk.u64_in _ ⟨by omega, by omega⟩
theorem yo {q x : Nat} (h : x < 256) : (q * 256 ||| x) = q * 256 + x := by
 rw [Nat.mul_comm, show 256 = 2 ^ 8 from rfl, Nat.two_pow_add_eq_or_of_lt Om]
theorem qA (A : Oa) (n c : Nat) (xs : Lb) (w : World) (HA : Bs w A n xs) (hn : n ≤ 8) :
  Ct 229 #[.slice A n c] w fun e w' => e = .returned (.int .u64 ((nb xs : Nat) : Int)) ∧ Ext w w' := by
 have hxl := HA.1
 refine ai 19 func229 rfl rfl rfl rfl ?_
 intro _ hret
 refine aU ?_
 refine az (fun n' L wr => ∃ (k : Nat), L = [(3, .int .u64 ((nb (xs.take k) : Nat) : Int)), (6, .slice A n c), (7, .int .i64 (n : Int)), (8, .int .i64 (k : Int))] ∧ n' = n - k ∧ (k ≤ n ∧ Ext w wr)) _ _ ⟨0, rfl, rfl, by omega, Ext.refl _⟩ Ls ?_
 rintro _ n' L wr ⟨k, rfl, rfl, _, E⟩ Vw
 refine aU ?_
 refine al rfl (fun Vx => ?_) (fun Vx => ?_)
 ·have hkn : k < n := by omega
  obtain ⟨b, off, rfl, _, hc⟩ := (HA.ext E).get hkn
  have Vy := UInt8.toNat_lt (xs.getD k 0)
  have hlt := si (xs.take k)
  have hle : 256 ^ (xs.take k).length ≤ 256 ^ 7 := Nat.pow_le_pow_right Om (by rw [List.length_take]; omega)
  have Vz : nb (xs.take k) < 72057594037927936 := Nat.lt_of_lt_of_le hlt hle
  have hs := eJ (xs := xs) (k := k) Om
  refine au 7 ?_
  refine ak (af rfl Tn.u rfl hc) ?_
  refine au 5 ?_
  refine ak (fk rfl rfl Om (Gj Vz)) ?_
  refine au 2 ?_
  refine ak (iH rfl rfl (by rw [(cu Om Om).2.1, yo Vy])) ?_
  refine au 8 ?_
  refine ae ?_
  refine Vw _ _ ⟨k + 1, rfl, rfl, by omega, E⟩ Om Ls
 ·refine aU ?_
  refine hret rfl ?_
  obtain rfl : k = n := by omega
  rw [List.take_of_length_le Om]
  exact ⟨rfl, E⟩
theorem EL {xs : Lb} {e k : Nat} : (tk xs e (k : Int)).1.length ≤ k := by
 unfold tk
 split
 ·simp
 ·split
  ·simp
  ·split
   ·simp
   ·simp; omega
theorem Ng {s : St} {xs : Lb} (k : Nat) (h : s = .ok xs ∨ (bW s ≠ 0 ∧ s = .error (bW s))) (he : bW s < 256) :
  nb (tk xs (bW s) (k : Int)).1 = (dK k s).1 ∧ ∀ N S w g, Rd N S w g (tk xs (bW s) (k : Int)).2.2.1 (tk xs (bW s) (k : Int)).2.2.2 → Rs N S w g (dK k s).2 := by
 rcases h with rfl | ⟨h0, h1⟩
 ·show nb (tk xs 0 (k : Int)).1 = _ ∧ ∀ N S w g, Rd N S w g (tk xs 0 (k : Int)).2.2.1 (tk xs 0 (k : Int)).2.2.2 → _
  rw [jQ]
  unfold tk
  rw [if_neg Om, if_neg Om]
  by_cases hl : xs.length < k
  ·rw [if_pos Om, if_pos hl]
   exact ⟨rfl, fun N S w g h => ⟨by omega, by omega, _, h⟩⟩
  ·rw [if_neg Om, if_neg hl]
   exact ⟨rfl, fun N S w g h => h⟩
 ·generalize bW s = c at *
  subst h1
  have ht : tk xs c (k : Int) = ([], false, xs, c) := by unfold tk; rw [if_pos h0]
  rw [ht]
  exact ⟨rfl, fun N S w g h => ⟨h0, he, _, h⟩⟩
theorem Ee {N : Nat} {S : List Nat} {g : Nat} {s : St} (k : Nat) (z : Int) (hz : z = (k : Int)) (w : World) (hk : k = 1 ∨ k = 2 ∨ k = 4 ∨ k = 8) (H0 : Rs N S w g s) :
  Ct 182 #[.pointer (some ⟨g, 0, none⟩), .int .i64 z] w fun e w' => e = .returned (.int .u64 (((dK k s).1 : Nat) : Int)) ∧ Rs N S w' g (dK k s).2 ∧ aA [g] w w' := by
 subst hz
 obtain ⟨xs, H, he, hs⟩ := H0.rd
 have Vw : k ≤ 8 := by omega
 have F := aA.refl [g] w
 obtain ⟨q1, q2⟩ := Ng k hs he
 refine ai 18 func182 rfl rfl rfl rfl ?_
 intro _ hret
 refine au 9 ?_
 refine aB func192 rfl (AP k _) ?_
 rintro e _ ⟨rfl, ex⟩
 refine au 1 ?_
 obtain ⟨H,F⟩ := ba ex H F
 rw [decide_eq_true hk]
 refine ak (lW rfl) ?_
 refine au 2 ?_
 refine aX rfl rfl ?_
 refine au 6 ?_
 refine aB func223 rfl (jo (k : Int) _ he H) ?_
 rintro e _ ⟨A2, n2, c2, rfl, _, K2, H2, ex⟩
 replace F := F.bo ex
 have Vx : n2 ≤ k := (K2.out.1 ▸ EL)
 refine au 11 ?_
 refine aB func229 rfl (qA A2 n2 c2 _ _ K2.out Om) ?_
 rintro e _ ⟨rfl, ex⟩
 refine au 1 ?_
 obtain ⟨F,H2⟩ := ba ex F H2
 rw [q1]
 refine au 4 ?_
 refine hret rfl ?_
 exact ⟨rfl, q2 _ _ _ _ H2, F⟩
theorem pI (k : Nat) (s : St) : (dK k s).1 < 256 ^ k := by
  have hp := Nat.pow_pos (n := k) (show 0 < 256 by omega)
  cases s with
  | error c => exact hp
  | ok xs =>
    rw [jQ]
    split
    · exact hp
    · have := si (xs.take k)
      rw [List.length_take, Nat.min_eq_left Om] at this
      exact this
theorem nw {N : Nat} {S : List Nat} {g : Nat} {s : St} (w : World) (H0 : Rs N S w g s) :
  Ct 170 #[.pointer (some ⟨g, 0, none⟩)] w fun e w' => e = .returned (.int .u8 ((bW s : Nat) : Int)) ∧ Ext w w' := by
 obtain ⟨xs, H, he, hs⟩ := H0.rd
 obtain ⟨A, n, d, B, hd, m, K⟩ := H
 refine ai 9 func170 rfl rfl rfl rfl ?_
 intro _ hret
 refine au 9 ?_
 refine ak (Y.as (GB rfl rfl Tn.u) (show Value.bool _ = .bool false from rfl)) ?_
 refine au 2 ?_
 refine aX rfl rfl ?_
 refine aU ?_
 refine hret rfl ?_
 exact ⟨rfl, Ext.refl _⟩
theorem Dg {N : Nat} {S : List Nat} {g : Nat} {s : St} (w : World) (H : Rs N S w g s) :
  Ct 173 #[.pointer (some ⟨g, 0, none⟩)] w fun e w' => e = .returned (.int .u8 ((eo s : Nat) : Int)) ∧ Ext w w' := by
 have E := Ext.refl w
 refine ai 15 func173 rfl rfl rfl rfl ?_
 intro _ hret
 refine aU ?_
 refine aB func170 rfl (nw _ H) ?_
 rintro e _ ⟨rfl, ex⟩
 obtain ⟨H,E⟩ := ba ex H E
 refine aU ?_
 refine al rfl (fun Vw => ?_) (fun Vw => ?_)
 ·have hs : eo s = bW s := by cases s with
   | ok xs => exact absurd rfl Vw
   | error c => rfl
  refine aU ?_
  refine hret rfl ?_
  exact ⟨by rw [hs], E⟩
 ·obtain ⟨xs, rfl⟩ : ∃ xs, s = .ok xs := by
   cases s with
   | ok xs => exact ⟨xs, rfl⟩
   | error c => exact absurd H.1 (fun h => h (by have h2 : ¬ ((c : Nat) : Int) ≠ 0 := Vw; omega))
  obtain ⟨A, n, d, B, hd, m, K⟩ := H
  have hl := K.out.1
  refine aU ?_
  refine al rfl (fun Vx => ?_) (fun Vx => ?_)
  ·refine aU ?_
   refine hret rfl ?_
   exact ⟨by cases xs with
    | nil => exfalso; simp at hl; omega
    | cons x xs => rfl, E⟩
  ·refine aU ?_
   refine hret rfl ?_
   exact ⟨by cases xs with
    | nil => rfl
    | cons x xs => exfalso; simp at hl; omega, E⟩
theorem Bn {N : Nat} {S : List Nat} {g e : Nat} {xs : Lb} (z : Int) (w : World) (he : e < 256) (hz : z ≤ 35184372088832) (H : Rd N S w g xs e) :
  Ct 222 #[.pointer (some ⟨g, 0, none⟩), .int .i64 z] w fun r w' => ∃ A n c, r = .returned (.slice A n c) ∧ n ≤ c ∧ Fb w.heap.size w' A n (tk xs e z).1 ∧ Rd N S w' g (tk xs e z).2.2.1 (tk xs e z).2.2.2 ∧ aA [g] w w' := by
 have F := aA.refl [g] w
 refine ai 15 func222 rfl rfl rfl rfl ?_
 intro _ hret
 refine aU ?_
 refine aB func223 rfl (jo z _ he H) ?_
 rintro e _ ⟨A1, n1, c1, rfl, _, K1, H1, ex⟩
 replace F := F.bo ex
 refine au 11 ?_
 have Vx : n1 ≤ 35184372088832 := by
  have h := K1.out.1
  have : (tk xs e z).1.length ≤ z.toNat := by
   unfold tk
   split
   ·simp
   ·split
    ·simp
    ·split
     ·simp
     ·simp; omega
  omega
 have Vy := F.size
 refine aB func100 rfl (wX A1 n1 c1 _ _ K1.out Vx) ?_
 rintro e _ ⟨A2, c2, rfl, Vw, Vz, VA, ex⟩
 obtain ⟨F,H1⟩ := ba ex F H1
 refine aU ?_
 refine hret rfl ?_
 exact ⟨A2, n1, c2, rfl, Vw, ⟨Vz, fun _ b o h => Nat.le_trans Vy (VA b o h)⟩, H1, F⟩
end
section
open Go.RowKit Tryz
attribute [local irreducible] Y Ef WL WC WK WQ WM cE WN WF dc
open Wire
namespace Wire
theorem qo (xs : Lb) (k : Nat) {z : Int} (hz : z = (k : Int)) : tk xs 0 z = if xs.length < k then ([], false, xs, 4) else (xs.take k, true, xs.drop k, 0) := by
 subst hz
 unfold tk
 rw [if_neg Om, if_neg Om]
 by_cases h : xs.length < k
 ·rw [if_pos Om, if_pos h]
 ·rw [if_neg Om, if_neg h]; rfl
theorem Me {s : St} {xs : Lb} (h : s = .ok xs ∨ (bW s ≠ 0 ∧ s = .error (bW s))) (he : bW s < 256) (hn : (tk xs (bW s) 1).2.1 = false) :
  ∃ c, nK s = ((0, false), .error c) ∧ (tk xs (bW s) 1).2.2.2 = c ∧ c ≠ 0 ∧ c < 256 := by
 rcases h with rfl | ⟨h0, h1⟩
 ·have e : tk xs (bW (.ok xs)) 1 = tk xs 0 1 := rfl
  rw [e, qo xs 1 (z := 1) rfl] at hn ⊢
  cases xs with
  | nil => exact ⟨4, rfl, rfl, by omega, by omega⟩
  | cons b r => rw [if_neg (by simp)] at hn; cases hn
 ·generalize bW s = c at *
  subst h1
  exact ⟨c, rfl, by unfold tk; rw [if_pos h0], h0, he⟩
theorem AH {s : St} {xs : Lb} (h : s = .ok xs ∨ (bW s ≠ 0 ∧ s = .error (bW s))) (hn : (tk xs (bW s) 1).2.1 = true) :
  ∃ b r, s = .ok (b :: r) ∧ tk xs (bW s) 1 = ([b], true, r, 0) := by
 rcases h with rfl | ⟨h0, h1⟩
 ·have e : tk xs (bW (.ok xs)) 1 = tk xs 0 1 := rfl
  rw [e, qo xs 1 (z := 1) rfl] at hn ⊢
  cases xs with
  | nil => rw [if_pos (by simp)] at hn; cases hn
  | cons b r => exact ⟨b, r, rfl, by rw [if_neg (by simp)]; rfl⟩
 ·have : tk xs (bW s) 1 = ([], false, xs, bW s) := by unfold tk; rw [if_pos h0]
  rw [this] at hn; cases hn
theorem sC (b : UInt8) (r : Lb) : iO (b :: r) = if 192 ≤ b.toNat then .error 3 else
   let s := if b.toNat < 64 then 1 else if b.toNat < 128 then 2 else 4
   if r.length < s - 1 then .error 4
   else
    let n := nb (UInt8.ofNat (b.toNat % 64) :: r.take (s - 1))
    if iM n = s then .ok (n, r.drop (s - 1)) else .error 3 := rfl
theorem kD {b : UInt8} {r : Lb} (h : 192 ≤ b.toNat) : iO (b :: r) = .error 3 := by
 rw [sC, if_pos h]
theorem nh {b : UInt8} {r : Lb} {s : Nat} (h : ¬ 192 ≤ b.toNat) (hs : s = 2 ^ (b.toNat / 64)) : iO (b :: r) = if r.length < s - 1 then .error 4 else if iM (nb (UInt8.ofNat (b.toNat % 64) :: r.take (s - 1))) = s then .ok (nb (UInt8.ofNat (b.toNat % 64) :: r.take (s - 1)), r.drop (s - 1)) else .error 3 := by
 have e : (if b.toNat < 64 then 1 else if b.toNat < 128 then 2 else 4) = s := by
  rw [hs]
  by_cases h1 : b.toNat < 64
  ·rw [if_pos h1, show b.toNat / 64 = 0 by omega]
  ·rw [if_neg h1]
   by_cases h2 : b.toNat < 128
   ·rw [if_pos h2, show b.toNat / 64 = 1 by omega]
   ·rw [if_neg h2, show b.toNat / 64 = 2 by omega]
 rw [sC, if_neg h]
 simp only [e]
theorem kN (xs : Lb) : nK (.ok xs) = match iO xs with
  | .error c => ((0, false), .error c)
  | .ok (n, r) => ((n, true), .ok r) := rfl
theorem DT : ∀ x : Fin 256, bits .and .u8 ((x.val : Nat) : Int) 63 = ((x.val % 64 : Nat) : Int) := by decide +kernel
theorem nU {b : UInt8} {t : Lb} (h : t.length ≤ 3) : nb (UInt8.ofNat (b.toNat % 64) :: t) < 1073741824 := by
 have hx : (UInt8.ofNat (b.toNat % 64)).toNat = b.toNat % 64 := by rw [UInt8.toNat_ofNat']; omega
 have hl := si t
 rw [zS, hx]
 match t, h with
 | [], _ => simp [nb]; try omega
 | [x], _ => simp at hl ⊢; omega
 | [x, y], _ => simp at hl ⊢; omega
 | [x, y, z], _ => simp at hl ⊢; omega
 | x :: y :: z :: u :: t, h => simp at h
end Wire
theorem wN {N : Nat} {S : List Nat} {g : Nat} {s : St} (w : World) (H0 : Rs N S w g s) :
  Ct 221 #[.pointer (some ⟨g, 0, none⟩)] w fun e w' => e = .returned (.tuple #[.int .i64 (((nK s).1.1 : Nat) : Int), .bool (nK s).1.2]) ∧ Rs N S w' g (nK s).2 ∧ aA [g] w w' := by
 obtain ⟨xs, H, he, hs⟩ := H0.rd
 have hgS := H.mem
 have F := aA.refl [g] w
 refine bu 56 func221 rfl rfl rfl rfl ?_
 intro _ hret
 refine aU ?_
 refine fu 0 (fun n' L wr => ∃ (j sz b1 o1 c1 : Nat) (b : UInt8) (r : Lb), L = [(0, .pointer (some ⟨g, 0, none⟩)), (4, .slice (some ⟨b1, o1, none⟩) 1 c1), (6, .int .i64 (sz : Int)), (7, .int .u8 (j : Int))] ∧ n' = 1 + j ∧ (s = .ok (b :: r) ∧ j ≤ b.toNat / 64 ∧ sz = 2 ^ (b.toNat / 64 - j) ∧ aA [g] w wr ∧ Rd N S wr g r 0 ∧ Kp N S (fun w => Bs w (some ⟨b1, o1, none⟩) 1 [b]) wr)) rfl ?_ ?_
 ·rintro G n' L wr ⟨j, sz, b1, o1, c1, b, r, rfl, rfl, rfl, _, hsz, F, H1, K1⟩ Vy
  have VC := UInt8.toNat_lt b
  have VD : sz ≤ 8 := by rw [hsz]; exact Nat.pow_le_pow_right (n := 2) Om (show b.toNat / 64 - j ≤ 3 by omega)
  have VE : 1 ≤ sz := by rw [hsz]; exact Nat.pow_pos Om
  refine aU ?_
  refine al rfl (fun VF => ?_) (fun VF => ?_)
  ·have h2 : 2 ^ (b.toNat / 64 - (j - 1)) = sz * 2 := by rw [hsz, ← Nat.pow_succ]; congr 1; omega
   refine au 10 ?_
   refine ak (eS rfl rfl (IntWalk.u8_in _ ⟨by omega, by omega⟩)) ?_
   refine aU ?_
   refine bV ?_
   refine Vy _ _ ⟨j - 1, sz * 2, b1, o1, c1, b, r, rfl, rfl, rfl, by omega, by rw [h2], F, H1, K1⟩ Om Ls
  ·obtain rfl : j = 0 := by omega
   rw [Nat.sub_zero] at hsz
   have hbig : 4 < sz ↔ 192 ≤ b.toNat := by
    rw [hsz]
    rcases (show b.toNat / 64 = 0 ∨ b.toNat / 64 = 1 ∨ b.toNat / 64 = 2 ∨ b.toNat / 64 = 3 by omega) with h | h | h | h <;> rw [h] <;> omega
   refine aU ?_
   refine al rfl (fun VG => ?_) (fun VG => ?_)
   ·refine aU ?_
    refine aB func224 rfl (jf 3 3 rfl _ H1) ?_
    rintro e _ ⟨rfl, H2, ex⟩
    replace F := F.bo ex
    refine aU ?_
    refine bK ?_
    refine hret rfl rfl ?_
    have e1 : nK (.ok (b :: r)) = ((0, false), .error 3) := by rw [kN, kD (hbig.1 Om)]
    rw [e1]
    exact ⟨rfl, ⟨by omega, by omega, _, H2⟩, F⟩
   ·have hsm : ¬ 192 ≤ b.toNat := fun h => by have := hbig.2 h; omega
    have hpl := nh (r := r) hsm hsz
    refine aU ?_
    refine aB func223 rfl (jo ((sz : Int) - 1) _ Om H1) ?_
    rintro e w3 ⟨A3, n3, _, rfl, _, K3, H3, ex⟩
    refine au 1 ?_
    obtain ⟨F,K1⟩ := gA ex F K1
    rw [qo r (sz - 1) (show ((sz : Int) - 1) = ((sz - 1 : Nat) : Int) by omega)] at K3 H3 ⊢
    refine aU ?_
    refine bA rfl (fun Vx => ?_) (fun Vx => ?_)
    ·refine aU ?_
     refine bK ?_
     refine hret rfl rfl ?_
     have hshort : r.length < sz - 1 := Classical.byContradiction fun h => by rw [if_neg h] at Vx; cases Vx
     rw [if_pos hshort] at H3 hpl
     have e1 : nK (.ok (b :: r)) = ((0, false), .error 4) := by rw [kN, hpl]
     rw [e1]
     exact ⟨rfl, ⟨by omega, by omega, _, H3⟩, F⟩
    ·have hlong : ¬ r.length < sz - 1 := fun h => by rw [if_pos h] at Vx; cases Vx
     rw [if_neg hlong] at H3 K3 hpl
     replace K3 : Kp N S (fun w => Bs w A3 n3 (r.take (sz - 1))) w3 := K3
     replace H3 : Rd N S w3 g (r.drop (sz - 1)) 0 := H3
     have VM : n3 = sz - 1 := by rw [← K3.out.1, List.length_take]; omega
     obtain ⟨VN, VO, Vz, _, Vw⟩ := K1.out.get (k := 0) Om
     injection Vz with Vz
     injection Vz with VH VI _
     subst VH; subst VI
     have hnb := nU (b := b) (t := r.take (sz - 1)) (by rw [List.length_take]; omega)
     refine au 5 ?_
     refine ak (aw rfl rfl Tn.u Kr (j := 0) rfl Om) ?_
     refine ak (af rfl Tn.u rfl Vw) ?_
     refine ak (cM rfl rfl (DT ⟨b.toNat, VC⟩)) ?_
     refine ag (aK (z := .int .u8 0) Tn.u Kr rfl rfl rfl rfl rfl) rfl ?_
     rintro _ w4 ⟨g4, rfl, B4, VJ, ex⟩
     have x4 := ex; have R4 : Row w4 w3.heap.size 5 (some ⟨g4, 0, none⟩) 1 1 ([UInt8.ofNat (b.toNat % 64)].map bv) := Row.new (cs := #[.int .u8 ((b.toNat % 64 : Nat) : Int)]) B4 VJ rfl (by show 1 ≤ maxLen; unfold maxLen; omega) |>.congr rfl (by simp [bv, UInt8.toNat_ofNat']; omega)
     refine aU ?_
     refine ag (bd rfl rfl cB R4 (K3.ext x4).out.2 (by rw [List.length_map, K3.out.1]) aM Om Om x4.size) rfl ?_
     rintro _ _ ⟨A5, c5, rfl, R5, be, _, _⟩
     have ex := x4.trans be; have S5 := R5.cat.bs
     obtain ⟨F,H3⟩ := ba ex F H3
     refine aB func229 rfl (qA A5 (1 + n3) c5 _ _ S5 Om) ?_
     rintro e _ ⟨rfl, ex⟩
     obtain ⟨F,H3⟩ := ba ex F H3
     refine au 1 ?_
     refine ak (bg rfl Tn.u Tn.u (bc (by simp only [List.singleton_append]; omega) (by simp only [List.singleton_append]; omega))) ?_
     refine au 7 ?_
     simp only [List.singleton_append]
     refine aB func249 rfl (oL _ _ hnb) ?_
     rintro e _ ⟨rfl, ex⟩
     obtain ⟨F,H3⟩ := ba ex F H3
     refine aU ?_
     refine al rfl (fun VK => ?_) (fun VK => ?_)
     ·refine aU ?_
      refine aB func224 rfl (jf 3 3 rfl _ H3) ?_
      rintro e _ ⟨rfl, H8, ex⟩
      replace F := F.bo ex
      refine aU ?_
      refine bK ?_
      refine hret rfl rfl ?_
      rw [if_neg Om] at hpl
      have e1 : nK (.ok (b :: r)) = ((0, false), .error 3) := by rw [kN, hpl]
      rw [e1]
      exact ⟨rfl, ⟨by omega, by omega, _, H8⟩, F⟩
     ·refine aU ?_
      refine bK ?_
      refine hret rfl rfl ?_
      rw [if_pos Om] at hpl
      have e1 : nK (.ok (b :: r)) = ((nb (UInt8.ofNat (b.toNat % 64) :: r.take (sz - 1)), true), .ok (r.drop (sz - 1))) := by rw [kN, hpl]
      rw [e1]
      exact ⟨rfl, H3, F⟩
 ·intro G Vy
  refine aU ?_
  refine aB func223 rfl (jo 1 _ he H) ?_
  rintro e w1 ⟨A1, n1, c1, rfl, _, K1, H1, ex⟩
  replace F := F.bo ex
  refine aU ?_
  refine bA rfl (fun VA => ?_) (fun VA => ?_)
  ·refine aU ?_
   refine bK ?_
   refine hret rfl rfl ?_
   obtain ⟨c, e1, e2, h0, h9⟩ := Me hs he (by simpa using VA)
   rw [e2] at H1
   rw [e1]
   exact ⟨rfl, ⟨h0, h9, _, H1⟩, F⟩
  ·obtain ⟨b, r, hsb, ht⟩ := AH hs (by simpa using VA)
   rw [ht] at K1 H1
   replace K1 : Kp N S (fun w => Bs w A1 n1 [b]) w1 := K1
   replace H1 : Rd N S w1 g r 0 := H1
   have VL : n1 = 1 := K1.out.1.symm
   subst VL
   obtain ⟨b1, o1, rfl, _, hcell⟩ := K1.out.get (k := 0) Om
   refine au 10 ?_
   refine ak (aw rfl rfl Tn.u Kr (j := 0) rfl Om) ?_
   refine ak (af rfl Tn.u rfl hcell) ?_
   refine ak (bZ rfl rfl Om (show ((b.toNat : Nat) : Int) / 64 = ((b.toNat / 64 : Nat) : Int) by omega)) ?_
   refine au 3 ?_
   refine dE ?_; intro VP VB
   refine gn ?_
   refine ae (VB ?_)
   exact Vy _ _ ⟨b.toNat / 64, 1, b1, o1, c1, b, r, rfl, rfl, hsb, Nat.le_refl _, by rw [Nat.sub_self], F, H1, K1⟩ Ls
theorem Be {xs r : Lb} {n : Nat} (h : iO xs = .ok (n, r)) : n < 1073741824 := by
  cases xs with
  | nil => cases h
  | cons b t =>
    by_cases hb : 192 ≤ b.toNat
    · rw [kD hb] at h; cases h
    · rw [nh hb rfl] at h
      split at h
      · cases h
      · split at h
        · injection h with h
          injection h with h1 _
          subst h1
          refine nU ?_
          rw [List.length_take]
          have : 2 ^ (b.toNat / 64) ≤ 2 ^ 2 := Nat.pow_le_pow_right Om Om
          omega
        · cases h
theorem Dy (s : St) : (nK s).1.2 = false → cU s = ([], (nK s).2) := by
  cases s with
  | error c => intro _; rfl
  | ok xs =>
    rw [kN]
    show _ → (match iF xs with
      | .error c => (([], .error c) : List UInt8 × St)
      | .ok (v, r) => (v, .ok r)) = _
    unfold iF
    cases iO xs with
    | error c => intro _; rfl
    | ok p => intro h; cases h
theorem Dt {s : St} (h : (nK s).1.2 = true) : ∃ n r, nK s = ((n, true), .ok r) ∧ n < 1073741824 ∧ cU s = if r.length < n then ([], .error 4) else (r.take n, .ok (r.drop n)) := by
  cases s with
  | error c => cases h
  | ok xs =>
    rw [kN] at h ⊢
    show ∃ n r, _ ∧ _ ∧ (match iF xs with
      | .error c => (([], .error c) : List UInt8 × St)
      | .ok (v, r) => (v, .ok r)) = _
    unfold iF
    cases hp : iO xs with
    | error c => rw [hp] at h; cases h
    | ok p =>
      obtain ⟨n, r⟩ := p
      refine ⟨n, r, rfl, Be hp, ?_⟩
      show (match (if r.length < n then (.error 4 : Except Nat (List UInt8 × List UInt8)) else .ok (r.take n, r.drop n)) with
        | .error c => (([], .error c) : List UInt8 × St)
        | .ok (v, r) => (v, .ok r)) = _
      by_cases hl : r.length < n
      · rw [if_pos hl, if_pos hl]
      · rw [if_neg hl, if_neg hl]
theorem EV {N : Nat} {S : List Nat} {g : Nat} {s : St} (w : World) (H0 : Rs N S w g s) :
  Ct 168 #[.pointer (some ⟨g, 0, none⟩)] w fun e w' => ∃ A n c, e = .returned (.slice A n c) ∧ n ≤ c ∧ Fb w.heap.size w' A n (cU s).1 ∧ Rs N S w' g (cU s).2 ∧ aA [g] w w' := by
 have F := aA.refl [g] w
 refine ai 15 func168 rfl rfl rfl rfl ?_
 intro _ hret
 refine aU ?_
 refine aB func221 rfl (wN _ H0) ?_
 rintro e w1 ⟨rfl, H1, ex⟩
 replace F := F.bo ex
 refine aU ?_
 refine bA rfl (fun Vy => ?_) (fun Vy => ?_)
 ·refine aU ?_
  refine hret rfl ?_
  rw [Dy s (by simpa using Vy)]
  exact ⟨none, 0, 0, rfl, Nat.le_refl _, Fb.nil _ _ _, H1, F⟩
 ·refine au 3 ?_
  obtain ⟨n, r, e1, hn, e2⟩ := Dt (s := s) (by simpa using Vy)
  rw [e1] at H1 ⊢
  replace H1 : Rd N S w1 g r 0 := H1
  have Vz := F.size
  refine aU ?_
  refine aB func222 rfl (Bn (n : Int) _ Om Om H1) ?_
  rintro e _ ⟨A2, n2, c2, rfl, Vw, Vx, H2, ex⟩
  replace F := F.bo ex
  rw [qo r n rfl] at Vx H2
  refine aU ?_
  refine hret rfl ?_
  rw [e2]
  refine ⟨A2, n2, c2, rfl, Vw, ?_, ?_, F⟩
  ·refine Fb.mono (base := w1.heap.size) ?_ Vz
   by_cases hl : r.length < n
   ·rw [if_pos hl] at Vx ⊢; exact Vx
   ·rw [if_neg hl] at Vx ⊢; exact Vx
  ·by_cases hl : r.length < n
   ·rw [if_pos hl] at H2 ⊢; exact ⟨by omega, by omega, _, H2⟩
   ·rw [if_neg hl] at H2 ⊢; exact H2
end
section
open Go.RowKit Tryz
attribute [local irreducible] Y Ef WL WC WK WQ WM cE WN WF dc
open Wire
namespace Wire
def qC (b : Lb) (at_ : Nat) : Nat × Nat × Nat := match iO (b.drop at_) with
 | .ok (v, r) => (v, b.length - r.length, 0)
 | .error c => (0, at_, c)
def dU (b : Lb) (at_ : Nat) : List UInt8 × Nat × Nat := match iF (b.drop at_) with
 | .ok (v, r) => (v, b.length - r.length, 0)
 | .error c => ([], at_, c)
def di (k : Nat) (b : Lb) (at_ : Nat) : Nat × Nat × Nat := if (b.drop at_).length < k then (0, at_, 4) else (nb ((b.drop at_).take k), at_ + k, 0)
theorem iT {b : Lb} {at_ c : Nat} (h : iO (b.drop at_) = .error c) : qC b at_ = (0, at_, c) := by unfold qC; rw [h]
theorem wI {b r : Lb} {at_ v : Nat} (h : iO (b.drop at_) = .ok (v, r)) : qC b at_ = (v, b.length - r.length, 0) := by unfold qC; rw [h]
theorem lG {b : Lb} {at_ c : Nat} (h : iF (b.drop at_) = .error c) : dU b at_ = ([], at_, c) := by unfold dU; rw [h]
theorem qd {b v r : Lb} {at_ : Nat} (h : iF (b.drop at_) = .ok (v, r)) : dU b at_ = (v, b.length - r.length, 0) := by unfold dU; rw [h]
theorem drop_cons {b : Lb} {k : Nat} (h : k < b.length) : b.drop k = b.getD k 0 :: b.drop (k + 1) := by
 rw [List.drop_eq_getElem_cons h]; simp [h]
theorem uY {xs : Lb} {c : Nat} (h : iO xs = .error c) : c ≠ 0 ∧ c < 256 := by
  cases xs with
  | nil => cases h; omega
  | cons b t =>
    by_cases hb : 192 ≤ b.toNat
    · rw [kD hb] at h; cases h; omega
    · rw [nh hb rfl] at h
      split at h
      · cases h; omega
      · split at h
        · cases h
        · cases h; omega
theorem sH {xs r : Lb} {n : Nat} (h : iO xs = .ok (n, r)) : ∃ k, 1 ≤ k ∧ k ≤ xs.length ∧ r = xs.drop k := by
  cases xs with
  | nil => cases h
  | cons b t =>
    by_cases hb : 192 ≤ b.toNat
    · rw [kD hb] at h; cases h
    · rw [nh hb rfl] at h
      split at h
      · cases h
      · rename_i hl
        split at h
        · injection h with h
          injection h with _ h2
          have hp : 1 ≤ 2 ^ (b.toNat / 64) := Nat.pow_pos Om
          refine ⟨2 ^ (b.toNat / 64), hp, by rw [List.length_cons]; omega, ?_⟩
          rw [← h2]
          obtain ⟨s, hs⟩ : ∃ s, 2 ^ (b.toNat / 64) = s + 1 := ⟨2 ^ (b.toNat / 64) - 1, by omega⟩
          rw [hs]
          simp
        · cases h
theorem sn {xs v r : Lb} (h : iF xs = .ok (v, r)) : ∃ k, 1 ≤ k ∧ k + v.length ≤ xs.length ∧ r = xs.drop (k + v.length) ∧ v = (xs.drop k).take v.length := by
  unfold iF at h
  cases hp : iO xs with
  | error c => rw [hp] at h; cases h
  | ok p =>
    obtain ⟨n, r'⟩ := p
    rw [hp] at h
    obtain ⟨k, h1, h2, rfl⟩ := sH hp
    have h' : (if (xs.drop k).length < n then (.error 4 : Except Nat (List UInt8 × List UInt8)) else .ok ((xs.drop k).take n, (xs.drop k).drop n)) = .ok (v, r) := h
    by_cases hl : (xs.drop k).length < n
    · rw [if_pos hl] at h'; cases h'
    · rw [if_neg hl] at h'
      injection h' with h'
      injection h' with e1 e2
      have hvl : v.length = n := by rw [← e1, List.length_take]; omega
      rw [List.length_drop] at hl
      exact ⟨k, h1, by omega, by rw [← e2, hvl, List.drop_drop], by rw [hvl, e1]⟩
end Wire
def Sub (A : Oa) (n : Nat) (b : Lb) (A' : Oa) (k : Nat) (v : Lb) : Prop := ∀ w, Bs w A n b → Bs w A' k v
theorem oO (A : Oa) (n c : Nat) (b : Lb) (at_ : Nat) (w : World) (HA : Bs w A n b) (hn : n ≤ 1000000) (hat : at_ ≤ n) :
  Ct 254 #[.slice A n c, .int .i64 (at_ : Int)] w fun e w' => e = .returned (.tuple #[.int .i64 (((qC b at_).1 : Nat) : Int), .int .i64 (((qC b at_).2.1 : Nat) : Int), .int .i64 (((qC b at_).2.2 : Nat) : Int)]) ∧ Ext w w' := by
 have E := Ext.refl w
 have hbl := HA.1
 obtain ⟨x, hx⟩ : ∃ x, x = b.getD at_ 0 := ⟨_, rfl⟩
 have VP := UInt8.toNat_lt x
 refine ln 69 func254 rfl rfl rfl rfl ?_
 intro _ hret
 refine aU ?_
 refine al rfl (fun VB => ?_) (fun VB => ?_)
 ·refine aU ?_
  refine hret rfl rfl rfl ?_
  rw [iT (c := 4) (by rw [List.drop_of_length_le Om]; rfl)]
  exact ⟨rfl, E⟩
 ·have hlt : at_ < n := by omega
  obtain ⟨b0, o0, rfl, _, hcell⟩ := HA.get hlt
  rw [← hx] at hcell
  have hdr : b.drop at_ = x :: b.drop (at_ + 1) := by rw [hx]; exact drop_cons Om
  have hrl : (b.drop (at_ + 1)).length = n - at_ - 1 := by rw [List.length_drop]; omega
  refine au 13 ?_
  refine ak (af rfl Tn.u rfl hcell) ?_
  refine aU ?_
  refine uD (fun L Vx => ∃ (sz : Nat), L = [(0, .slice (some ⟨b0, o0, none⟩) n c), (1, .int .i64 (at_ : Int)), (7, .int .i64 (sz : Int))] ∧ (Vx = w ∧ ((x.toNat < 64 ∧ sz = 1) ∨ (64 ≤ x.toNat ∧ sz = 2)))) ?_ ?_
  ·skip
   refine al rfl (fun VC => ?_) (fun VC => ?_)
   ·refine aU ?_
    exact kZ _ ⟨2, rfl, rfl, .inr ⟨by omega, rfl⟩⟩ Ls
   ·refine aU ?_
    exact kZ _ ⟨1, rfl, rfl, .inl ⟨by omega, rfl⟩⟩ Ls
  rintro L Vx ⟨sz, rfl, rfl, _⟩
  refine au 7 ?_
  refine ak (af rfl Tn.u rfl hcell) ?_
  refine aU ?_
  refine uD (fun L Vy => ∃ (sy : Nat), L = [(0, .slice (some ⟨b0, o0, none⟩) n c), (1, .int .i64 (at_ : Int)), (7, .int .i64 (sy : Int))] ∧ (Vy = Vx ∧ ((x.toNat < 64 ∧ sy = 1) ∨ (64 ≤ x.toNat ∧ x.toNat < 128 ∧ sy = 2) ∨ (128 ≤ x.toNat ∧ sy = 4)))) ?_ ?_
  ·skip
   refine al rfl (fun VD => ?_) (fun VD => ?_)
   ·refine aU ?_
    exact kZ _ ⟨4, rfl, rfl, by omega⟩ Ls
   ·refine aU ?_
    exact kZ _ ⟨sz, rfl, rfl, by omega⟩ Ls
  rintro L Vy ⟨sy, rfl, rfl, hsy⟩
  refine au 7 ?_
  refine ak (af rfl Tn.u rfl hcell) ?_
  refine aU ?_
  refine al rfl (fun VE => ?_) (fun VE => ?_)
  ·refine aU ?_
   refine hret rfl rfl rfl ?_
   rw [iT (c := 3) (by rw [hdr]; exact kD Om)]
   exact ⟨rfl, E⟩
  ·have hsm : ¬ 192 ≤ x.toNat := by omega
   have VF : sy = 2 ^ (x.toNat / 64) := by
    rcases hsy with ⟨h, e⟩ | ⟨h1, h2, e⟩ | ⟨h, e⟩
    ·rw [show x.toNat / 64 = 0 by omega]; omega
    ·rw [show x.toNat / 64 = 1 by omega]; omega
    ·rw [show x.toNat / 64 = 2 by omega]; omega
   have hpl := nh (r := b.drop (at_ + 1)) hsm VF
   rw [← hdr] at hpl
   have Vz : 1 ≤ sy ∧ sy ≤ 4 := by omega
   refine aU ?_
   refine al rfl (fun VG => ?_) (fun VG => ?_)
   ·refine aU ?_
    refine hret rfl rfl rfl ?_
    rw [if_pos Om] at hpl
    rw [iT hpl]
    exact ⟨rfl, E⟩
   ·rw [if_neg Om] at hpl
    obtain ⟨ys, hys⟩ : ∃ ys, ys = UInt8.ofNat (x.toNat % 64) :: b.drop (at_ + 1) := ⟨_, rfl⟩
    have hyl : ys.length = n - at_ := by rw [hys, List.length_cons, hrl]; omega
    have VH : nb (ys.take 1) = x.toNat % 64 := by rw [hys]; simp [nb, UInt8.toNat_ofNat']; omega
    refine au 7 ?_
    refine ak (af rfl Tn.u rfl hcell) ?_
    refine au 1 ?_
    refine ak (cK rfl rfl Om (show (((x.toNat : Nat) : Int).tmod 64) = ((x.toNat % 64 : Nat) : Int) from rfl)) ?_
    refine aU ?_
    refine az (fun n' L wr => ∃ (i v : Nat), L = [(0, .slice (some ⟨b0, o0, none⟩) n c), (1, .int .i64 (at_ : Int)), (7, .int .i64 (sy : Int)), (8, .int .i64 (v : Int)), (9, .int .i64 (i : Int))] ∧ n' = sy - i ∧ (1 ≤ i ∧ i ≤ sy ∧ v = nb (ys.take i) ∧ Ext Vy wr)) _ _ ⟨1, x.toNat % 64, rfl, rfl, Nat.le_refl _, Vz.1, VH.symm, Ext.refl _⟩ Ls ?_
    rintro _ n' L wr ⟨i, v, rfl, rfl, _, _, hv, E⟩ VI
    refine aU ?_
    refine al rfl (fun VJ => ?_) (fun VJ => ?_)
    ·have VK : i < sy := by omega
     obtain ⟨b1, o1, e1, _, Vw⟩ := (HA.ext E).get (k := at_ + i) Om
     injection e1 with e1
     injection e1 with VL VM _
     subst VL; subst VM
     have VQ := UInt8.toNat_lt (b.getD (at_ + i) 0)
     have hst := eJ (xs := ys) (k := i) Om
     have hgy : ys.getD i 0 = b.getD (at_ + i) 0 := by
      obtain ⟨j, rfl⟩ : ∃ j, i = j + 1 := ⟨i - 1, by omega⟩
      rw [hys]
      simp [List.getD_eq_getElem?_getD, Nat.add_comm, Nat.add_left_comm]
     rw [hgy, ← hv] at hst
     have hvl := si (ys.take i)
     rw [← hv, List.length_take] at hvl
     have VN : v < 256 ^ 3 := Nat.lt_of_lt_of_le hvl (Nat.pow_le_pow_right Om Om)
     refine au 11 ?_
     refine ak (aw rfl rfl Tn.u Kr (j := at_ + i) Om Om) ?_
     refine ak (af rfl Tn.u rfl Vw) ?_
     refine au 11 ?_
     refine ae ?_
     refine VI _ _ ⟨i + 1, 256 * v + (b.getD (at_ + i) 0).toNat, rfl, rfl, by omega, by omega, by omega, E⟩ Om Ls
    ·obtain rfl : i = sy := by omega
     have hyt : ys.take i = UInt8.ofNat (x.toNat % 64) :: (b.drop (at_ + 1)).take (i - 1) := by
      obtain ⟨j, rfl⟩ : ∃ j, i = j + 1 := ⟨i - 1, by omega⟩
      rw [hys]; simp
     rw [← hyt, ← hv] at hpl
     have VA : v < 1073741824 := by rw [hv, hyt]; exact nU (by rw [List.length_take]; omega)
     refine aU ?_
     refine aB func124 rfl (pY v _ VA) ?_
     rintro e _ ⟨_, _, rfl, _, ex⟩
     replace E := E.ext ex
     refine aU ?_
     refine al rfl (fun VO => ?_) (fun VO => ?_)
     ·refine aU ?_
      refine hret rfl rfl rfl ?_
      rw [if_neg Om] at hpl
      rw [iT hpl]
      exact ⟨rfl, E⟩
     ·rw [if_pos Om] at hpl
      refine aU ?_
      refine hret rfl rfl rfl ?_
      rw [wI hpl]
      exact ⟨by rw [List.length_drop, hrl]; congr 3; simp only [List.cons.injEq, Array.mk.injEq, Value.int.injEq, true_and, and_true]; omega, E⟩
theorem uU {A : Oa} {n c : Nat} {b : Lb} {at_ z : Nat} {w : World} (HA : Bs w A n b) (hn : n ≤ 1000000) (hat : at_ ≤ n) (h : iO (b.drop at_) = .error z) :
  Ct 254 #[.slice A n c, .int .i64 (at_ : Int)] w fun e w' => e = .returned (.tuple #[.int .i64 0, .int .i64 (at_ : Int), .int .i64 (z : Int)]) ∧ Ext w w' :=
 (oO A n c b at_ w HA hn hat).mono fun _ _ ⟨h1, h2⟩ => ⟨by rw [h1, iT h]; rfl, h2⟩
theorem yT {A : Oa} {n c : Nat} {b r : Lb} {at_ v : Nat} {w : World} (HA : Bs w A n b) (hn : n ≤ 1000000) (hat : at_ ≤ n) (h : iO (b.drop at_) = .ok (v, r)) :
  Ct 254 #[.slice A n c, .int .i64 (at_ : Int)] w fun e w' => e = .returned (.tuple #[.int .i64 (v : Int), .int .i64 ((n - r.length : Nat) : Int), .int .i64 0]) ∧ Ext w w' :=
 (oO A n c b at_ w HA hn hat).mono fun _ _ ⟨h1, h2⟩ => ⟨by rw [h1, wI h, HA.1]; rfl, h2⟩
def Nz (A : Oa) (n : Nat) (b v : Lb) (nx z : Nat) (w w' : World) (e : Ending) : Prop := ∃ A' k c', e = .returned (.tuple #[.slice A' k c', .int .i64 (nx : Int), .int .i64 (z : Int)]) ∧ Sub A n b A' k v ∧ k ≤ c' ∧ Ext w w'
theorem zC {A : Oa} {n c : Nat} {b : Lb} {at_ z : Nat} {w : World} (HA : Bs w A n b) (hn : n ≤ 1000000) (hat : at_ ≤ n) (h : iO (b.drop at_) = .error z) :
  Ct 231 #[.slice A n c, .int .i64 (at_ : Int)] w fun e w' => Nz A n b [] at_ z w w' e := by
 have E := Ext.refl w
 have hz := uY h
 refine ln 37 func231 rfl rfl rfl rfl ?_
 intro _ hret
 refine aU ?_
 refine aB func254 rfl (uU HA hn hat h) ?_
 rintro e _ ⟨rfl, ex⟩
 replace E := E.ext ex
 refine aU ?_
 refine hret rfl rfl rfl ?_
 exact ⟨none, 0, 0, rfl, fun w _ => Bs.nil w _, Nat.le_refl _, E⟩
theorem yp {A : Oa} {n c : Nat} {b r : Lb} {at_ v : Nat} {w : World} (HA : Bs w A n b) (hc : n ≤ c) (hn : n ≤ 1000000) (hat : at_ ≤ n) (hp : iO (b.drop at_) = .ok (v, r)) :
  Ct 231 #[.slice A n c, .int .i64 (at_ : Int)] w fun e w' => Nz A n b (dU b at_).1 (dU b at_).2.1 (dU b at_).2.2 w w' e := by
 have E := Ext.refl w
 have hbl := HA.1
 have hvl := Be hp
 obtain ⟨q, Vy, Vw, hqr⟩ := sH hp
 rw [List.length_drop] at Vw
 have hrl : r.length = n - at_ - q := by rw [hqr, List.length_drop, List.length_drop]; omega
 have hpv : iF (b.drop at_) = if r.length < v then .error 4 else .ok (r.take v, r.drop v) := by unfold iF; rw [hp]
 obtain ⟨nx, hnx⟩ : ∃ nx, nx = n - r.length := ⟨_, rfl⟩
 refine ln 37 func231 rfl rfl rfl rfl ?_
 intro _ hret
 refine aU ?_
 refine aB func254 rfl (yT HA hn hat hp) ?_
 rintro e _ ⟨rfl, ex⟩
 refine au 1 ?_
 replace E := E.ext ex
 rw [← hnx]
 refine aU ?_
 refine al rfl (fun Vx => ?_) (fun Vx => ?_)
 ·refine aU ?_
  refine hret rfl rfl rfl ?_
  rw [if_pos Om] at hpv
  rw [lG hpv]
  exact ⟨none, 0, 0, rfl, fun w _ => Bs.nil w _, Nat.le_refl _, E⟩
 ·rw [if_neg Om] at hpv
  refine au 9 ?_
  refine ak (tH (s := 1) rfl rfl rfl Tn.u Kr (j := nx) rfl (h := nx + v) Om Om Om) ?_
  refine aU ?_
  refine hret rfl rfl rfl ?_
  rw [qd hpv]
  refine ⟨j6 A c nx 1, nx + v - nx, c - nx, ?_, fun w H => ?_, by omega, E⟩
  ·rw [show b.length - (r.drop v).length = nx + v by rw [List.length_drop, hrl]; omega]; rfl
  ·have h1 := (H.take (k := nx + v) Om).j6 (c := c) (j := nx) Om Om
   have e : (b.take (nx + v)).drop nx = r.take v := by rw [List.drop_take, hqr, List.drop_drop]; congr 1 <;> congr 1 <;> omega
   rw [e] at h1
   exact h1
theorem uP {A : Oa} {n c : Nat} {b : Lb} {at_ : Nat} {w : World} (HA : Bs w A n b) (hc : n ≤ c) (hn : n ≤ 1000000) (hat : at_ ≤ n) :
    Ct 231 #[.slice A n c, .int .i64 (at_ : Int)] w fun e w' => Nz A n b (dU b at_).1 (dU b at_).2.1 (dU b at_).2.2 w w' e := by
  cases hp : iO (b.drop at_) with
  | error z =>
    have hv : iF (b.drop at_) = .error z := by unfold iF; rw [hp]
    rw [lG hv]
    exact zC HA hn hat hp
  | ok p => exact yp HA hc hn hat (v := p.1) (r := p.2) hp
end
end Go.Proofs.YtgfafidlkldeaaaGreat
