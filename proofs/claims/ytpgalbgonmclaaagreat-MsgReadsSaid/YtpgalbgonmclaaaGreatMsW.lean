/- What bytes as a whole are: packages, proposals, commits, messages; how great what is read can be. No conditions: contracts of the program's functions. -/
import Derived.Test.YtpgalbgonmclaaaGreatMsZ
namespace Go.Proofs.YtpgalbgonmclaaaGreat
open Go.RowKit
attribute [local irreducible] Y Ef WL WC WK WQ WM OpM WN WF OpN WJ OpJ
open Wire Nd M20
theorem eachN_all {α : Type} {f : St → α × St} {P : α → Prop} {B : Nat} (hf : ∀ ys : List UInt8, ys.length ≤ B → P (f (.ok ys)).1) (hle : ∀ ys r : List UInt8, (f (.ok ys)).2 = .ok r → r.length ≤ ys.length) : ∀ (n : Nat) (ys : List UInt8), ys.length ≤ B → ∀ x ∈ (eachN f n ys).1, P x
  | 0, ys, _, x, hx => by cases hx
  | n + 1, [], _, x, hx => by cases hx
  | n + 1, y :: ys, hB, x, hx => by
    have e : eachN f (n + 1) (y :: ys) = match (f (.ok (y :: ys))).2 with
      | .error c => ([(f (.ok (y :: ys))).1], .error c)
      | .ok r => ((f (.ok (y :: ys))).1 :: (eachN f n r).1, (eachN f n r).2) := rfl
    have h0 := hf _ hB
    rcases st_cases (f (.ok (y :: ys))).2 with ⟨c, hc⟩ | ⟨r, hr⟩
    · rw [hc] at e
      rw [e] at hx
      simp only [List.mem_singleton] at hx
      subst hx; exact h0
    · rw [hr] at e
      rw [e] at hx
      rcases List.mem_cons.1 hx with rfl | hx
      · exact h0
      · exact eachN_all hf hle n r (by have := hle _ _ hr; omega) x hx
theorem eachN_len {α : Type} {f : St → α × St} : ∀ (n : Nat) (ys : List UInt8), (eachN f n ys).1.length ≤ n
  | 0, ys => Nat.le_refl _
  | n + 1, [] => Nat.zero_le _
  | n + 1, y :: ys => by
    have e : eachN f (n + 1) (y :: ys) = match (f (.ok (y :: ys))).2 with
      | .error c => ([(f (.ok (y :: ys))).1], .error c)
      | .ok r => ((f (.ok (y :: ys))).1 :: (eachN f n r).1, (eachN f n r).2) := rfl
    rcases st_cases (f (.ok (y :: ys))).2 with ⟨c, hc⟩ | ⟨r, hr⟩
    · rw [hc] at e
      rw [e]; show 1 ≤ n + 1; omega
    · rw [hr] at e
      rw [e]
      have := eachN_len (f := f) n r
      show _ + 1 ≤ _; omega
theorem each_fit {α : Type} {f : St → α × St} {P : α → Prop} {s : St} {B : Nat} (h : slen s ≤ B) (hf : ∀ ys : List UInt8, ys.length ≤ B → P (f (.ok ys)).1) (hle : ∀ ys r : List UInt8, (f (.ok ys)).2 = .ok r → r.length ≤ ys.length) : (eachX f s).1.length ≤ B ∧ ∀ x ∈ (eachX f s).1, P x := by
  rcases st_cases (vecX s).2 with ⟨c, hc⟩ | ⟨q, hq⟩
  · rw [eachX_no hc]; exact ⟨Nat.zero_le _, fun x hx => by cases hx⟩
  · rw [eachX_yes hq]
    have h1 := (vecX_le s).1
    exact ⟨Nat.le_trans (eachN_len _ _) (by omega), eachN_all hf hle _ _ (by omega)⟩
theorem each_le {α : Type} (f : St → α × St) (s : St) : slen (eachX f s).2 ≤ slen s := by
  rcases st_cases (vecX s).2 with ⟨c, hc⟩ | ⟨q, hq⟩
  · rw [eachX_no hc]; exact Nat.zero_le _
  · rw [eachX_yes hq]
    have h1 := (vecX_le s).2
    rw [hq] at h1
    show slen (thenX q _) ≤ _
    cases (eachN f (vecX s).1.length (vecX s).1).2 with
    | error c => exact Nat.zero_le _
    | ok z => exact h1
theorem vec_fit {s : St} {B : Nat} (h : slen s ≤ B) : (vecX s).1.length ≤ B ∧ slen (vecX s).2 ≤ B := by have := vecX_le s; omega
theorem leafI_fit {s : St} (h : slen s ≤ 10000) : (leafI s).1.Fit := by
  cases s with
  | error c => exact fit_zero
  | ok xs => exact fit_leafX (s := .ok xs) (by omega)
theorem pack_fit {s : St} (h : slen s ≤ 10000) : (packX s).1.Fit := by
  have h1 := just_le 2 1 s
  have h2 := just_le 2 1 (justX 2 1 s)
  have h3 := vec_fit (s := justX 2 1 (justX 2 1 s)) (B := 10000) (by omega)
  have h4 := leafI_le (vecX (justX 2 1 (justX 2 1 s))).2
  have h5 := vec_fit (s := (leafI (vecX (justX 2 1 (justX 2 1 s))).2).2) (B := 10000) (by omega)
  exact ⟨Nat.le_trans h3.1 (by omega), leafI_fit h3.2, Nat.le_trans h5.1 (by omega)⟩
theorem pack0_fit : Pack.zero.Fit := ⟨Nat.zero_le _, fit_zero, Nat.zero_le _⟩
theorem prop_fit {s : St} (h : slen s ≤ 10000) : (propX s).1.Fit := by
  have h1 := num_le (s := s) 1
  unfold propX
  dsimp only
  split
  · exact ⟨pack_fit (by omega), fit_zero⟩
  · split
    · exact ⟨pack0_fit, leafI_fit (by omega)⟩
    · split
      · exact ⟨pack0_fit, fit_zero⟩
      · exact ⟨pack0_fit, fit_zero⟩
theorem item_fit {s : St} (h : slen s ≤ 10000) : (itemX s).1.Fit := by
  have h1 := num_le (s := s) 1
  unfold itemX
  dsimp only
  split
  · exact ⟨Nat.zero_le _, prop_fit (by omega)⟩
  · split
    · exact ⟨by have := (vec_fit (s := (numX 1 s).2) (B := 10000) (by omega)).1; show (vecX (numX 1 s).2).1.length ≤ 1000000; omega, pack0_fit, fit_zero⟩
    · exact ⟨Nat.zero_le _, pack0_fit, fit_zero⟩
theorem item_le (s : St) : slen (itemX s).2 ≤ slen s := by
  have h1 := num_le (s := s) 1
  have h2 := propX_le (numX 1 s).2
  have h3 := (vecX_le (numX 1 s).2).2
  have h5 := badX_le (numX 1 s).2
  unfold itemX
  dsimp only
  split
  · exact Nat.le_trans h2 h1
  · split
    · exact Nat.le_trans h3 h1
    · exact Nat.le_trans h5 h1
theorem le_of {α : Type} {f : St → α × St} (h : ∀ s, slen (f s).2 ≤ slen s) (ys r : List UInt8) (e : (f (.ok ys)).2 = .ok r) : r.length ≤ ys.length := by
  have := h (.ok ys)
  rw [e] at this; exact this
theorem bxd_fit {s : St} (h : slen s ≤ 10000) : (bxdX s).1.Fit := by
  have h1 := vec_fit (s := s) (B := 10000) h
  have h2 := vec_fit (s := (vecX s).2) (B := 10000) h1.2
  exact ⟨Nat.le_trans h1.1 (by omega), Nat.le_trans h2.1 (by omega)⟩
theorem stp_le (s : St) : slen (stpX s).2 ≤ slen s := Nat.le_trans (each_le bxdX (vecX s).2) (vecX_le s).2
theorem stp_fit {s : St} (h : slen s ≤ 10000) : (stpX s).1.Fit := by
  have h1 := vec_fit (s := s) (B := 10000) h
  have h2 := each_fit (f := bxdX) (P := Bxd.Fit) h1.2 (fun ys hy => bxd_fit hy) (le_of bxdX_le)
  exact ⟨Nat.le_trans h1.1 (by omega), h2.1, h2.2⟩
theorem flag_le (s : St) : slen (flagX s).2 ≤ slen s := by
  have h := num_le (s := s) 1
  unfold flagX
  rcases st_cases (numX 1 s).2 with ⟨c, hc⟩ | ⟨q, hq⟩
  · rw [hc]; exact Nat.zero_le _
  · rw [hq] at h ⊢
    dsimp only
    split
    · exact Nat.zero_le _
    · exact h
theorem com_fit {s : St} (h : slen s ≤ 10000) : (comX s).1.Fit := by
  have h1 := each_fit (f := itemX) (P := Item20.Fit) h (fun ys hy => item_fit hy) (le_of item_le)
  have h2 := each_le itemX s
  have h3 := flag_le (eachX itemX s).2
  have h4 := leafI_le (flagX (eachX itemX s).2).2
  have h5 := each_fit (f := stpX) (P := Stp.Fit) (s := (leafI (flagX (eachX itemX s).2).2).2) (B := 10000) (by omega) (fun ys hy => stp_fit hy) (le_of stp_le)
  unfold comX
  dsimp only
  split
  · exact ⟨h1.1, h1.2, leafI_fit (by omega), h5.1, h5.2⟩
  · exact ⟨h1.1, h1.2, fit_zero, Nat.zero_le _, fun x hx => by cases hx⟩
theorem com_le (s : St) : slen (comX s).2 ≤ slen s := by
  have h2 := each_le itemX s
  have h3 := flag_le (eachX itemX s).2
  have h4 := leafI_le (flagX (eachX itemX s).2).2
  have h5 := each_le stpX (leafI (flagX (eachX itemX s).2).2).2
  unfold comX
  dsimp only
  split
  · show slen (eachX stpX (leafI (flagX (eachX itemX s).2).2).2).2 ≤ _; omega
  · show slen (flagX (eachX itemX s).2).2 ≤ _; omega
theorem com0_fit : Com20.zero.Fit := ⟨Nat.zero_le _, (fun x hx => by cases hx), fit_zero, Nat.zero_le _, fun x hx => by cases hx⟩
theorem prop0_fit : Prop20.zero.Fit := ⟨pack0_fit, fit_zero⟩
theorem mess_fit {s : St} (h : slen s ≤ 10000) : (messX s).1.Fit := by
  obtain ⟨g, hg⟩ : ∃ g, g = vecX (justX 2 1 (justX 2 1 s)) := ⟨_, rfl⟩
  obtain ⟨e, he⟩ : ∃ e, e = numX 8 g.2 := ⟨_, rfl⟩
  obtain ⟨f, hf⟩ : ∃ f, f = numX 4 (justX 1 1 e.2) := ⟨_, rfl⟩
  obtain ⟨k, hk⟩ : ∃ k, k = numX 1 f.2 := ⟨_, rfl⟩
  have h1 := just_le 2 1 s
  have h2 := just_le 2 1 (justX 2 1 s)
  have h3 := vec_fit (s := justX 2 1 (justX 2 1 s)) (B := 10000) (by omega)
  rw [← hg] at h3
  have h4 := num_le (s := g.2) 8
  rw [← he] at h4
  have h5 := just_le 1 1 e.2
  have h6 := num_le (s := justX 1 1 e.2) 4
  rw [← hf] at h6
  have h7 := num_le (s := f.2) 1
  rw [← hk] at h7
  have hk4 : slen k.2 ≤ 10000 := by omega
  by_cases k2 : k.1 = 2
  · rw [mess_two hg he hf hk k2]
    have a1 := propX_le k.2
    have a2 := vec_fit (s := (propX k.2).2) (B := 10000) (by omega)
    have a3 := vec_fit a2.2
    exact ⟨Nat.le_trans h3.1 (by omega), prop_fit hk4, com0_fit, Nat.le_trans a2.1 (by omega), Nat.zero_le _, Nat.le_trans a3.1 (by omega)⟩
  · by_cases k3 : k.1 = 3
    · rw [mess_three hg he hf hk k3]
      have a1 := com_le k.2
      have a2 := vec_fit (s := (comX k.2).2) (B := 10000) (by omega)
      have a3 := vec_fit a2.2
      have a4 := vec_fit a3.2
      exact ⟨Nat.le_trans h3.1 (by omega), prop0_fit, com_fit hk4, Nat.le_trans a2.1 (by omega), Nat.le_trans a3.1 (by omega), Nat.le_trans a4.1 (by omega)⟩
    · rw [mess_no hg he hf hk k2 k3]
      have a1 := badX_le k.2
      have a2 := vec_fit (s := badX k.2) (B := 10000) (by omega)
      have a3 := vec_fit a2.2
      exact ⟨Nat.le_trans h3.1 (by omega), prop0_fit, com0_fit, Nat.le_trans a2.1 (by omega), Nat.zero_le _, Nat.le_trans a3.1 (by omega)⟩
theorem whole_code {α : Type} (z : α) (p : α × St) (ok : Bool) : (wholeX z p ok).2 = if endX p.2 ≠ 0 then endX p.2 else if ok then 0 else 3 := by
  unfold wholeX
  split
  · rfl
  · split <;> rfl
theorem whole_no {α : Type} {z : α} {p : α × St} {ok : Bool} (h : (if endX p.2 ≠ 0 then endX p.2 else if ok then 0 else 3) ≠ 0) : wholeX z p ok = (z, if endX p.2 ≠ 0 then endX p.2 else if ok then 0 else 3) := by
  rw [← whole_code z] at h ⊢
  exact Prod.ext (wholeX_zero h) rfl
theorem whole_yes {α : Type} {z : α} {p : α × St} {ok : Bool} (h : ¬ (if endX p.2 ≠ 0 then endX p.2 else if ok then 0 else 3) ≠ 0) : wholeX z p ok = (p.1, 0) := by
  unfold wholeX
  split at h
  · rename_i h1; exact absurd h1 h
  · rename_i h1
    rw [if_neg h1]
    split at h
    · rename_i h2; rw [if_pos h2]
    · exact absurd (show (3 : Nat) ≠ 0 by decide) h
def zMsgV : Array Value := msgV nilH 0 0 0 0 nilH nilH nilH nilH 0 nilH nilH nilH nilH nilH nilH 0 nilH nilH 0 nilH false nilH nilH nilH 0 nilH nilH nilH nilH nilH nilH
theorem MsgF.zero (base : Nat) (w : World) : MsgF base w zMsgV Mess.zero :=
  ⟨_, _, _, _, _, _, _, _, _, _, _, _, _, _, _, _, _, _, _, _, _, _, _, _, _, _, rfl, (by decide), (by decide), (by decide), Fb.nil _ _ _, PropF.zero _ _, ComF.zero _ _, Fb.nil _ _ _, Fb.nil _ _ _, Fb.nil _ _ _⟩
theorem PackF.size {base : Nat} {w : World} {cs : Array Value} {x : Pack} (h : PackF base w cs x) : cs.size = 8 ∧ ones cs.toList = true := by
  obtain ⟨i, h0, h1, h2, h4, h5, g, rfl, _⟩ := h; exact ⟨rfl, rfl⟩
theorem PropF.size {base : Nat} {w : World} {cs : Array Value} {x : Prop20} (h : PropF base w cs x) : cs.size = 16 ∧ ones cs.toList = true := by
  obtain ⟨i, h0, h1, h2, h4, h5, g, l0, l1, l2, l4, l5, rfl, _⟩ := h; exact ⟨rfl, rfl⟩
theorem ComF.size {base : Nat} {w : World} {cs : Array Value} {x : Com20} (h : ComF base w cs x) : cs.size = 9 ∧ ones cs.toList = true := by
  obtain ⟨it, h0, h1, h2, s, h4, h5, t, rfl, _⟩ := h; exact ⟨rfl, rfl⟩
theorem MsgF.size {base : Nat} {w : World} {cs : Array Value} {x : Mess} (h : MsgF base w cs x) : cs.size = 32 ∧ ones cs.toList = true := by
  obtain ⟨gr, i, h0, h1, h2, s, h4, h5, g, l0, l1, l2, t, l4, l5, it, c0, c1, c2, q, c4, c5, ct, sg, tg, mb, rfl, _⟩ := h; exact ⟨rfl, rfl⟩
theorem whole_cells {old cs : Array Value} {k : Nat} (h : old.size = k) (hc : cs.size = k) : (old.toList.take 0 ++ cs.toList ++ old.toList.drop (0 + cs.size)).toArray = cs := by
  have e : old.toList.drop (0 + cs.size) = [] := List.drop_of_length_le (by simp; omega)
  rw [e]; simp
theorem messOf1_any {N gi gr gm M : Nat} {s : St} {cs0 : Array Value} (w : World) (H : In N [gi, gr, gm] w gi gr s) (B : Blk w gm 55 cs0) (h0 : cs0.size = 32) (hi : gi ≠ gm) (hr : gr ≠ gm) (hM1 : M ≤ gi) (hM2 : M ≤ gr) (hM : M ≤ w.heap.size) (hN : N ≤ w.heap.size) :
    Calls Tryz.prog 50 #[.pointer (some ⟨gi, 0, none⟩), .pointer (some ⟨gm, 0, none⟩)] w fun e w' => e = .returned (.tuple #[]) ∧ In N [gi, gr, gm] w' gi gr (messX s).2 ∧ (∃ cs, Blk w' gm 55 cs ∧ cs.size = 32 ∧ Kp w'.heap.size [gi, gm] (fun w => MsgF M w cs (messX s).1) w') ∧ Lat M [gm] w w' := by
  have hli := H.lti
  have hlr := H.ltr
  have hlm := B.lt
  have F := Chs.refl [gr, gi] w
  refine vc_enter0 5 Tryz.func50 rfl rfl rfl rfl ?_
  intro Q hret
  refine wc_region ?_
  refine wl_y (y_move rfl) rfl ?_
  refine wl_call Tryz.func51 rfl rfl rfl (imess_any _ H (by simp; omega) hN) rfl ?_
  rintro e w1 ⟨cs, rfl, HM, H1, ex⟩
  refine ⟨_, rfl, ?_⟩
  replace F := F.chs ex
  replace B := B.chs ex
  have KM := HM.kk (S := [gi, gm]) (by simp; omega); obtain ⟨hz, ho⟩ := HM.size; have LF : Lat M [gm] w _ := F.lat (by omega)
  refine wl_ef (ef_storeP (o := 0) rfl rfl (by rw [hz]; kernel_rfl) B (by rw [hz, h0]; decide) (all_ones ho)) rfl ?_
  rintro _ w2 ⟨rfl, D, cg⟩
  have ex := Chs.one cg
  clear cg; rw [whole_cells h0 hz] at D
  replace H1 := H1.chs ex
  replace KM := KM.chs ex
  refine wl_nil ?_
  refine hret (.inr rfl) ?_
  exact ⟨rfl, H1, ⟨cs, D, hz, (KM.bump KM.1 (Nat.le_refl _)).map fun _ h => MsgF.mono h (by omega)⟩, LF.tr (ex.lat (by have := LF.size; omega))⟩
theorem messOf2_any {gm : Nat} {cs : Array Value} {x : Mess} (w : World) (B : Blk w gm 55 cs) (hz : cs.size = 32) (H : MsgAt w cs x) (hf : x.Fit) :
    Calls Tryz.prog 52 #[.pointer (some ⟨gm, 0, none⟩)] w fun e w' => e = .returned (.bool (decide (okMsg x))) ∧ Ext w w' := by
  have E := Ext.refl w
  refine vc_enter1 4 Tryz.func52 rfl rfl rfl rfl ?_
  intro Q hret
  refine wc_seq ?_; intro K1 hK1
  refine wc_region ?_
  refine wl_y (y_assign rfl) rfl ?_
  refine wl_nil ?_
  refine wq_then_norm (hK1 ?_)
  refine wc_seq ?_; intro K2 hK2
  refine wc_region ?_
  refine wl_y (y_loadw rfl Tryz.underlying55 rfl (by rw [hz]; kernel_rfl) B) rfl ?_
  refine wl_call Tryz.func53 rfl rfl rfl (rightMsg_any _ H hf) rfl ?_
  rintro e w1 ⟨rfl, ex⟩
  refine ⟨_, rfl, ?_⟩
  replace E := E.ext ex
  skip
  refine wl_y (y_assign rfl) rfl ?_
  refine wl_nil ?_
  refine wq_then_norm (hK2 ?_)
  refine wc_ret ?_
  refine hret rfl ?_
  exact ⟨rfl, E⟩
theorem messOf_any {A : Option Addr} {n c : Nat} {b : List UInt8} (w : World) (HA : Bs w A n b) (hc : n ≤ c) (hn : n ≤ 1048576) (hfit : (messX (.ok b)).1.Fit) :
    Calls Tryz.prog 16 #[.slice A n c] w fun e w' => ∃ cs, e = .returned (.tuple #[.agg cs, .int .u8 (((messOf b).2 : Nat) : Int)]) ∧ MsgF w.heap.size w' cs (messOf b).1 ∧ (messOf b).2 < 256 ∧ Ext w w' := by
  have F := Chs.refl [] w
  have KA : Kp w.heap.size [] (fun w => Bs w A n b) w := Kp.bs HA (by simp)
  have hbl := HA.1
  have hX : messOf b = wholeX Mess.zero (messX (.ok b)) (decide (okMsg (messX (.ok b)).1)) := rfl
  refine vc_enterct (s := 32) 15 Tryz.func16 rfl rfl rfl Tryz.underlying55 rfl (by kernel_rfl) rfl ?_
  intro Q hret
  refine wc_seq ?_; intro K1 hK1
  refine wc_region ?_
  refine wl_ef (ef_alloc (Z := #[.slice none 0 0, .int .u64 0, .int .i64 0, .int .u8 0, .int .u8 0, .slice none 0 0, .slice none 0 0, .slice none 0 0, .slice none 0 0, .int .u8 0, .slice none 0 0, .slice none 0 0, .slice none 0 0, .slice none 0 0, .slice none 0 0, .slice none 0 0, .int .u8 0, .slice none 0 0, .slice none 0 0, .int .i64 0, .slice none 0 0, .bool false, .slice none 0 0, .slice none 0 0, .slice none 0 0, .int .u8 0, .slice none 0 0, .slice none 0 0, .slice none 0 0, .slice none 0 0, .slice none 0 0, .slice none 0 0]) (by kernel_rfl)) rfl ?_
  rintro _ wB2 ⟨gB2, rfl, B2, hgB2, ex⟩
  have lB2 := B2.lt; have zB2 := ex.size
  replace F := F.grow ex hgB2
  replace KA := KA.grow ex hgB2
  refine wl_y (y_assign rfl) rfl ?_
  refine wl_nil ?_
  refine wq_then_norm (hK1 ?_)
  refine wc_seq ?_; intro K2 hK2
  refine wc_region ?_
  refine wl_ef (ef_alloc (Z := #[.slice none 0 0, .int .u64 0, .int .i64 0, .int .u8 0, .int .u8 0, .slice none 0 0, .slice none 0 0, .slice none 0 0, .slice none 0 0, .int .u8 0, .slice none 0 0, .slice none 0 0, .slice none 0 0, .slice none 0 0, .slice none 0 0, .slice none 0 0, .int .u8 0, .slice none 0 0, .slice none 0 0, .int .i64 0, .slice none 0 0, .bool false, .slice none 0 0, .slice none 0 0, .slice none 0 0, .int .u8 0, .slice none 0 0, .slice none 0 0, .slice none 0 0, .slice none 0 0, .slice none 0 0, .slice none 0 0]) (by kernel_rfl)) rfl ?_
  rintro _ wB4 ⟨gB4, rfl, B4, hgB4, ex⟩
  have lB4 := B4.lt; have zB4 := ex.size
  have nB2_4 : gB2 < gB4 := Nat.lt_of_lt_of_le B2.lt hgB4
  replace F := F.grow ex hgB4
  replace KA := KA.grow ex hgB4
  replace B2 := B2.grow ex hgB4
  refine wl_nil ?_
  refine wq_then_norm (hK2 ?_)
  refine wc_seq ?_; intro K3 hK3
  refine wc_seq ?_; intro K4 hK4
  refine wc_region ?_
  refine wl_y (y_move rfl) rfl ?_
  refine wl_y (y_func rfl) rfl ?_
  refine wl_y (y_func rfl) rfl ?_
  have q2 := B2.lt; have q4 := B4.lt; have q5 := F.size
  replace B4 := B4.congr (cs' := zMsgV) rfl
  refine wl_call Tryz.func29 rfl rfl rfl (read_any (N := w.heap.size) (V := [gB4]) (t := (messX (.ok b)).2) (okv := decide (okMsg (messX (.ok b)).1)) (us := [.pointer (some ⟨gB4, 0, none⟩)]) (vs := [.pointer (some ⟨gB4, 0, none⟩)]) (Ψ := fun gi w => ∃ cs, Blk w gB4 55 cs ∧ cs.size = 32 ∧ Kp w.heap.size [gi, gB4] (fun w => MsgF wB4.heap.size w cs (messX (.ok b)).1) w) _ (KA.mono (by simp)) hc (by omega) (by simp; omega) Tryz.func50 rfl rfl Tryz.func52 rfl rfl (fun w1 gi gr E hi hr H hS => messOf1_any w1 H (B4.ext E) rfl (by omega) (by omega) hi hr E.size (Nat.le_trans (by omega) E.size)) (fun gi w1 w2 hi ⟨cs, B, hz, K⟩ C => ⟨cs, B.chs C (by simp; omega), hz, (K.chs C (by simp)).bump C.size (Nat.le_refl _)⟩) (fun gi w1 ⟨cs, B, hz, K⟩ _ => messOf2_any w1 B hz (MsgF.at K.out) hfit)) rfl ?_
  rintro e w5 ⟨rfl, ⟨gi, hgi, cs, BM, hz, KM⟩, h256, ex⟩
  refine ⟨_, rfl, ?_⟩
  replace F := F.chs ex
  replace KA := KA.chs ex
  replace B2 := B2.chs ex
  have h5 := ex.size; have h9 := KM.1; have KM2 := (MsgF.kk KM.out (S := [gB2, gB4]) (by simp; omega)); obtain ⟨_, ho⟩ := MsgF.size KM.out; clear KM
  refine wl_y (y_assign rfl) rfl ?_
  refine wl_nil ?_
  refine wq_then_norm (hK4 ?_)
  refine wc_seq ?_; intro K5 hK5
  refine wc_region ?_
  refine wl_y (y_move rfl) rfl ?_
  refine wl_y (y_neq rfl rfl) rfl ?_
  refine wl_nil ?_
  refine wq_then_norm (hK5 ?_)
  refine wc_dec rfl (fun hc1 => ?_) (fun hc1 => ?_)
  · skip
    refine wc_seq ?_; intro K6 hK6
    have e1 := whole_no (z := Mess.zero) (p := messX (.ok b)) (ok := decide (okMsg (messX (.ok b)).1)) (by omega)
    refine wc_region ?_
    refine wl_y (y_build rfl (cells := zMsgV) (by kernel_rfl)) rfl ?_
    refine wl_y (y_move rfl) rfl ?_
    refine wl_ef (ef_storeP (o := 0) rfl rfl (by kernel_rfl) B2 (Nat.le_of_ble_eq_true rfl) (all_ones rfl)) rfl ?_
    rintro _ wS4_2 ⟨rfl, D, cg⟩
    have ex := Chs.one cg
    clear cg
    replace F := F.chs ex
    replace KA := KA.chs ex
    replace BM := BM.chs ex
    replace KM2 := KM2.chs ex
    replace B2 := D; clear D
    replace B2 := B2.congr (cs' := zMsgV) rfl
    refine wl_y (y_assign rfl) rfl ?_
    refine wl_nil ?_
    refine wq_then_norm (hK6 ?_)
    refine wc_ret ?_
    refine wq_then_ret ?_
    refine hret rfl rfl B2 rfl ?_
    rw [hX, e1]; exact ⟨_, rfl, MsgF.zero _ _, (by dsimp only; split; exact h256; split <;> omega), (F.drop (by omega)).drop (by omega) |>.toExt (by simp)⟩
  · skip
    refine wc_skip ?_
    refine wq_then_norm (hK3 ?_)
    refine wc_seq ?_; intro K7 hK7
    have e1 := whole_yes (z := Mess.zero) (p := messX (.ok b)) (ok := decide (okMsg (messX (.ok b)).1)) (by omega)
    refine wc_region ?_
    refine wl_y (y_loadw rfl Tryz.underlying55 rfl (by rw [hz]; kernel_rfl) BM) rfl ?_
    refine wl_ef (ef_storeP (o := 0) rfl rfl (by rw [hz]; kernel_rfl) B2 (by rw [hz]; decide) (all_ones ho)) rfl ?_
    rintro _ w6 ⟨rfl, D2, cg⟩
    have ex := Chs.one cg
    clear cg; rw [whole_cells (k := 32) rfl hz] at D2
    replace F := F.chs ex
    replace KA := KA.chs ex
    replace BM := BM.chs ex
    replace KM2 := KM2.chs ex
    refine wl_y (y_assign rfl) rfl ?_
    refine wl_nil ?_
    refine wq_then_norm (hK7 ?_)
    refine wc_ret ?_
    refine hret rfl rfl D2 hz ?_
    rw [hX, e1]; exact ⟨_, rfl, MsgF.mono KM2.out (by omega), (by show 0 < 256; omega), (F.drop (by omega)).drop (by omega) |>.toExt (by simp)⟩
end Go.Proofs.YtpgalbgonmclaaaGreat
