/- mac.Same, held and Tag: what each hands back. Lengths up to 2^45. -/
import Derived.Test.YtjllhimhiekchaaGreatSha4
import Derived.Test.YtjllhimhiekchaaGreatSl
import Derived.Test.YtjllhimhiekchaaGreatRow
import Derived.Test.YtjllhimhiekchaaGreatSha2
import Derived.Deep.RegionLaw
/- The digest of bytes: the code's Sum is the plain function. At most 2^45 bytes. -/
namespace Go.Proofs.YtjllhimhiekchaaGreat
open Go.RowKit
theorem zb32 : (Tryz.prog.info? 268).map (fun i => i.zero.map (·.cells)) = some (some (bys (zbs 32))) := by kernel_rfl
theorem sb32 : (Tryz.prog.info? 268).map (·.size) = some 32 := by kernel_rfl
theorem flat4_len (l : List Nat) : (l.flatMap Sha.be32).length = 4 * l.length := by
 induction l with
 | nil => rfl
 | cons x l ih => rw [List.flatMap_cons, List.length_append, ih, List.length_cons]; show 4 + _ = _; omega
theorem own_low {w : World} {base n c b off : Nat} {A : Option Addr} {xs : List UInt8} (h : Own w base A n c xs) (hA : A = some ⟨b, off, none⟩) : base ≤ b ∧ b < w.heap.size := by
 subst hA
 exact World.ownsRow.lt h b rfl
set_option maxHeartbeats 2000000 in
theorem sum_any (A : Option Addr) (n c : Nat) (xs : List UInt8) (w : World) (ha : Bs w A n xs) (hn : n ≤ 35184372088832) :
    Calls Tryz.prog 231 #[.slice A n c] w fun e w' => e = .returned (.agg (bys (Sha.sum xs))) ∧ Below w.heap.size w w' := by
  have HA := Lib.hid ha
  clear ha
  go_enter Tryz.func231, Tryz.ntmps231
  go_wp2_with (first
    | (refine arr_alloc rfl _ rfl _ zb32 w.heap.size rfl ?_
       obtain ⟨w0, hw0⟩ : ∃ w0, w0 = w.alloc (.cells (bys (zbs 32)) 268) := ⟨_, rfl⟩
       rw [← hw0]
       have B0 : Hid (Below w.heap.size w w0) := by rw [hw0]; exact (Below.refl _ _).alloc (Nat.le_refl _) _
       have K0 : Hid (Blk w0 w.heap.size 268 (bys (zbs 32))) := by rw [hw0]; exact Blk.new w _ _
       clear hw0)
    | fail)
  refine scope_jumps 0 (fun a' w' => ∃ u0 u1 u5 u6 u7 u8 u9 u10 u11 u12 u13 u14 u15 u16 u17 u18 u19 u20 u21 u22 u23 u24 u25 u26 u27 u28 u29 u30 u31 u32 u33 u34 u35 u36 u37 u38 u39 u40 u41 u42 u43 u44 u45 u46 u47 u48 u49 u50 u51 u52 u53 u54 u55, ∃ (g1 k m c' : Nat) (A' : Option Addr),
      a' = { tmps := #[u0, u1, .pointer (some ⟨w.heap.size, 0, none⟩), .pointer (some ⟨g1, 0, none⟩), .slice A' m c', u5, u6, u7, u8, u9, u10, u11, u12, u13, u14, u15, u16, u17, u18, u19, u20, u21, u22, u23, u24, u25, u26, u27, u28, u29, u30, u31, u32, u33, u34, u35, u36, u37, u38, u39, u40, u41, u42, u43, u44, u45, u46, u47, u48, u49, u50, u51, u52, u53, u54, u55], defers := [] }
      ∧ m ≤ c' ∧ 64 * k + m = (xs ++ Sha.pad xs.length).length ∧ w.heap.size < g1 ∧ (∀ b off, A' = some ⟨b, off, none⟩ → b ≠ g1) ∧ Below w.heap.size w w' ∧ Blk w' w.heap.size 268 (bys (zbs 32))
      ∧ Blk w' g1 290 (nums .u32 (Sha.blocks Sha.IV (xs ++ Sha.pad xs.length) k).list) ∧ Bs w' A' m ((xs ++ Sha.pad xs.length).drop (64 * k))) (fun a' _ => lenOf (a'.tmps.getD 4 undef)) rfl ?_ ?_
  · rintro a' w' ⟨u0, u1, u5, u6, u7, u8, u9, u10, u11, u12, u13, u14, u15, u16, u17, u18, u19, u20, u21, u22, u23, u24, u25, u26, u27, u28, u29, u30, u31, u32, u33, u34, u35, u36, u37, u38, u39, u40, u41, u42, u43, u44, u45, u46, u47, u48, u49, u50, u51, u52, u53, u54, u55, g1, k, m, c', A', rfl, hmc, hkm, hg1, hne, hbw, hk0, hk1, hbs⟩
    have HB := Lib.hid hbw; have HK0 := Lib.hid hk0; have HK1 := Lib.hid hk1; have HS := Lib.hid hbs; have HNE := Lib.hid hne; have HKM := Lib.hid hkm
    have hpm : (xs ++ Sha.pad xs.length).length % 64 = 0 := by rw [List.length_append]; exact Sha.padded_mod _
    have hmod : m % 64 = 0 := by omega
    clear hbw hk0 hk1 hbs hne hkm hpm
    by_cases hm : 0 < m
    · have hm64 : 64 ≤ m := by omega
      have hmi : (64 : Int) ≤ (m : Int) := by omega
      have hci : (64 : Int) ≤ (c' : Int) := by omega
      obtain ⟨b, off, rfl, _⟩ := HS.out.get hm
      have hbg : b ≠ g1 := HNE.out b off rfl
      go_wp2_with fail
      refine (step_any _ c' _ g1 _ _ (HS.out.take hm64) (Sha.blocks_ok Sha.IV_ok _ _) HK1.out).mono ?_
      rintro e w'' ⟨rfl, hk2, hgr⟩
      have HK2 : Hid (Blk w'' g1 290 (nums .u32 (Sha.blocks Sha.IV (xs ++ Sha.pad xs.length) (k + 1)).list)) := hk2
      have HC := HS.out.grown hgr HNE.out
      have HCA : c' = 64 → Bs w'' (some ⟨b, off, none⟩) (m - 64) ((xs ++ Sha.pad xs.length).drop (64 * (k + 1))) := fun h => by
        have h := HC.cutEnd (k := 64) (by omega) (some ⟨b, off, none⟩)
        rw [List.drop_drop] at h
        exact h
      have HCB : Bs w'' (some ⟨b, off + 64, none⟩) (m - 64) ((xs ++ Sha.pad xs.length).drop (64 * (k + 1))) := by
        have h := HC.cutOff 64
        rw [List.drop_drop] at h
        exact h
      have HA2 := Lib.hid HCA; have HB3 := Lib.hid HCB
      clear HC HCA HCB
      have HB2 : Hid (Below w.heap.size w w'') := below_grown HB.out hgr (by omega) HB.out.size
      have HK3 : Hid (Blk w'' w.heap.size 268 (bys (zbs 32))) := HK0.out.grown hgr (by intro h; injection h with h; omega)
      clear hk2 hgr HB HK0 HK1 HS HNE
      go_wp2
      · go_step3
        refine ⟨rfl, ⟨_, _, _, _, _, _, _, _, _, _, _, _, _, _, _, _, _, _, _, _, _, _, _, _, _, _, _, _, _, _, _, _, _, _, _, _, _, _, _, _, _, _, _, _, _, _, _, _, _, _, _, _, _, g1, k + 1, m - 64, 0, _, rfl, by omega, by have := HKM.out; omega, hg1, ?_, HB2.out, HK3.out, HK2.out, HA2.out (by omega)⟩, ?_⟩
        · intro b' off' h; injection h with h; injection h with h _ _; omega
        · simp [lenOf]; omega
      · go_step3
        refine ⟨rfl, ⟨_, _, _, _, _, _, _, _, _, _, _, _, _, _, _, _, _, _, _, _, _, _, _, _, _, _, _, _, _, _, _, _, _, _, _, _, _, _, _, _, _, _, _, _, _, _, _, _, _, _, _, _, _, g1, k + 1, m - 64, c' - 64, _, rfl, by omega, by have := HKM.out; omega, hg1, ?_, HB2.out, HK3.out, HK2.out, HB3.out⟩, ?_⟩
        · intro b' off' h; injection h with h; injection h with h _ _; omega
        · simp [lenOf]; omega
    · have hfin : Blk w' g1 290 (nums .u32 (Sha.blocks Sha.IV (xs ++ Sha.pad xs.length) ((xs ++ Sha.pad xs.length).length / 64)).list) := by
        have h := HK1.out
        rw [show k = (xs ++ Sha.pad xs.length).length / 64 from by have := HKM.out; omega] at h
        exact h
      obtain ⟨S, hS⟩ : ∃ S, Hid (S = Sha.blocks Sha.IV (xs ++ Sha.pad xs.length) ((xs ++ Sha.pad xs.length).length / 64)) := ⟨_, rfl⟩
      rw [← hS.out] at hfin
      have hok : S.ok := by rw [hS.out]; exact Sha.blocks_ok Sha.IV_ok _ _
      have HF := Lib.hid hfin; have HOK := Lib.hid hok
      have hsz := HB.out.size
      have hszlt := HK0.out.lt
      clear hfin hok HK1 HS HNE
      obtain rfl : m = 0 := by omega
      go_wp2_with (first
        | (refine arr_alloc rfl _ rfl _ zb32 w'.heap.size rfl ?_
           obtain ⟨w5, hw5⟩ : ∃ w5, w5 = w'.alloc (.cells (bys (zbs 32)) 268) := ⟨_, rfl⟩
           rw [← hw5]
           have HB5 : Hid (Below w.heap.size w w5) := by rw [hw5]; exact HB.out.alloc hsz _
           have K5 : Hid (Blk w5 w'.heap.size 268 (bys (zbs 32))) := by rw [hw5]; exact Blk.new w' _ _
           have K6 : Hid (Blk w5 w.heap.size 268 (bys (zbs 32))) := by rw [hw5]; exact HK0.out.alloc _
           have K7 : Hid (Blk w5 g1 290 (nums .u32 S.list)) := by rw [hw5]; exact HF.out.alloc _
           clear hw5)
        | refine arr_load rfl _ (.tmp 3) rfl g1 rfl _ _ _ K7.out Tryz.underlying290 rfl 8 s8 rfl ?_)
      have hgs := K7.out.lt
      have hsz5 : w.heap.size ≤ w'.heap.size := hsz
      have hl8 : S.list.length = 8 := rfl
      obtain ⟨l, hl⟩ : ∃ l, Hid (l = S.list) := ⟨_, rfl⟩
      rw [← hl.out] at K7 hl8 ⊢
      have OKL : Hid (∀ i, l.getD i 0 < 4294967296) := by rw [hl.out]; exact s8_lt HOK.out
      have HL8 := Lib.hid hl8
      clear hl8 HF HK0 HB B0 K0
      go_loopw [6, 7, 24] (fun _ _ i wr => ∃ k : Nat, k ≤ 8 ∧ i = .int .i64 k ∧ Below w.heap.size w wr ∧ Blk wr w.heap.size 268 (bys (zbs 32)) ∧ Blk wr w'.heap.size 268 (bys ((l.take k).flatMap Sha.be32 ++ zbs (32 - 4 * k)))) (fun _ _ i _ => 8 - (intOf i).toNat)
      case atStart => exact ⟨0, by omega, rfl, HB5.out, K6.out, K5.out⟩
      case round =>
        obtain ⟨k, hk, rfl, hb, hx0, hx1⟩ := hrel
        have HX := Lib.hid hb; have HX0 := Lib.hid hx0; have HX1 := Lib.hid hx1
        clear hb hx0 hx1 HB5 K5 K6
        by_cases hlt : k < 8
        · obtain ⟨q, hq⟩ : ∃ q, Hid (q = l.getD k 0) := ⟨_, rfl⟩
          have hql : q < 4294967296 := by rw [hq.out]; exact OKL.out _
          have hidx := fun (W : World) => run_index_arr (P := Tryz.prog) (w := W) (k := .i64) Tryz.underlying290 Tryz.underlying235 sz32 hlt (by rw [nums_get .u32 l k (by rw [HL8.out]; exact hlt), ← hq.out] : (nums .u32 l)[k]? = some (.int .u32 (q : Int)))
          have hlen : ((l.take k).flatMap Sha.be32).length = 4 * k := by rw [flat4_len, List.length_take, HL8.out]; omega
          have HLN := Lib.hid hlen
          have c0 : wr.cell? ⟨w'.heap.size, 4 * k, none⟩ = some (.int .u8 0) := by rw [HX1.out.cell]; exact bys_zero (by omega) (by omega)
          have c1 : wr.cell? ⟨w'.heap.size, 4 * k + 1, none⟩ = some (.int .u8 0) := by rw [HX1.out.cell]; exact bys_zero (by omega) (by omega)
          have c2 : wr.cell? ⟨w'.heap.size, 4 * k + 2, none⟩ = some (.int .u8 0) := by rw [HX1.out.cell]; exact bys_zero (by omega) (by omega)
          have c3 : wr.cell? ⟨w'.heap.size, 4 * k + 3, none⟩ = some (.int .u8 0) := by rw [HX1.out.cell]; exact bys_zero (by omega) (by omega)
          have f0 := HX1.out.frozen (4 * k); have f1 := HX1.out.frozen (4 * k + 1); have f2 := HX1.out.frozen (4 * k + 2); have f3 := HX1.out.frozen (4 * k + 3)
          clear hlen
          go_wp2
          go_roundw
          case rel =>
            refine ⟨k + 1, by omega, by go_num, (((HX.out.setCell (by show _ ≤ w'.heap.size; omega) _).setCell (by show _ ≤ w'.heap.size; omega) _).setCell (by show _ ≤ w'.heap.size; omega) _).setCell (by show _ ≤ w'.heap.size; omega) _, (((HX0.out.far (by show _ ≠ w'.heap.size; omega) _).far (by show _ ≠ w'.heap.size; omega) _).far (by show _ ≠ w'.heap.size; omega) _).far (by show _ ≠ w'.heap.size; omega) _, ?_⟩
            have e : (l.take (k + 1)).flatMap Sha.be32 ++ zbs (32 - 4 * (k + 1)) = (((((l.take k).flatMap Sha.be32 ++ [UInt8.ofNat (q / 16777216)]) ++ [UInt8.ofNat (q / 65536)]) ++ [UInt8.ofNat (q / 256)]) ++ [UInt8.ofNat q]) ++ zbs (28 - 4 * k) := by
              rw [List.take_succ_eq_append_getElem (by rw [HL8.out]; exact hlt), List.flatMap_append, show 32 - 4 * (k + 1) = 28 - 4 * k from by omega]
              have : l[k]'(by rw [HL8.out]; exact hlt) = q := by rw [hq.out]; simp [HL8.out, hlt]
              rw [this]
              simp [Sha.be32]
            rw [e]
            refine Blk.fillB (m := 29 - 4 * k) (Blk.fillB (m := 30 - 4 * k) (Blk.fillB (m := 31 - 4 * k) (Blk.fillB (m := 32 - 4 * k) HX1.out HLN.out.symm (by omega) ?_) ?_ (by omega) ?_) ?_ (by omega) ?_) ?_ (by omega) ?_
            · exact byte_val (by omega) (by omega) (by omega)
            · simp [HLN.out]
            · exact byte_val (by omega) (by omega) (by omega)
            · simp [HLN.out]
            · exact byte_val (by omega) (by omega) (by omega)
            · simp [HLN.out]
            · exact byte_val (by omega) (by omega) (by omega)
          case measure => simp [intOf]; omega
        · have hfin : Blk wr w'.heap.size 268 (bys (Sha.sum xs)) := by
            have h := HX1.out
            rw [show k = 8 from by omega, List.take_of_length_le (by rw [HL8.out]; omega)] at h
            rw [show l.flatMap Sha.be32 ++ zbs (32 - 4 * 8) = Sha.sum xs from by rw [hl.out, hS.out]; exact List.append_nil _] at h
            exact h
          go_wp2_with (first
            | refine arr_load rfl _ (.tmp 5) rfl w'.heap.size rfl _ _ _ hfin Tryz.underlying268 rfl 32 sb32 rfl ?_
            | refine arr_store rfl _ (.tmp 2) (.tmp 55) rfl w.heap.size (bys (Sha.sum xs)) rfl rfl _ _ HX0.out 32 sb32 rfl rfl (bys_one _) ?_)
          simp only [Exit.jump]
          exact arr_ret rfl w.heap.size _ _ _ rfl (HX0.out.row _) Tryz.underlying268 rfl 32 sb32 rfl rfl ⟨rfl, bel_row HX.out (Nat.le_refl _) _⟩
  · intro hp
    have HP := Lib.hid hp
    clear hp
    go_wp2_with (first
      | (go_at_call 254; refine (begin_any _).mono ?_; rintro e w1 ⟨rfl, hb1⟩
         have hz1 : w.heap.size < w1.heap.size := Nat.lt_of_lt_of_le K0.out.lt hb1.size
         have B1 : Hid (Below w.heap.size w w1) := B0.out.trans (hb1.mono B0.out.size)
         have K1 : Hid (Blk w1 w.heap.size 268 (bys (zbs 32))) := K0.out.kept hb1
         clear hb1 B0 K0)
      | (refine arr_alloc rfl _ rfl _ z8 w1.heap.size rfl ?_)
      | (refine arr_store rfl _ (.tmp 3) (.tmp 8) rfl w1.heap.size (nums .u32 Sha.H0) rfl rfl _ _ (Blk.new w1 _ _) 8 s8 rfl rfl (nums_one _ _) ?_
         obtain ⟨w2, hw2⟩ : ∃ w2, w2 = (w1.alloc (.cells (nums .u32 (zrs 8)) 290)).setRow w1.heap.size (nums .u32 Sha.H0) := ⟨_, rfl⟩
         rw [← hw2]
         have K2 : Hid (Blk w2 w1.heap.size 290 (nums .u32 Sha.IV.list)) := by rw [hw2]; exact (Blk.new w1 _ _).row _
         have J2 : Hid (Blk w2 w.heap.size 268 (bys (zbs 32))) := by rw [hw2]; exact (K1.out.alloc _).rowFar (by omega) _
         have B2 : Hid (Below w.heap.size w w2) := by rw [hw2]; exact bel_row (B1.out.alloc (by omega) _) (by omega) _
         clear hw2 B1 K1)
      | fail)
    have hw12 : w1.heap.size < w2.heap.size := K2.out.lt
    refine (clone_any A n c xs _ (HA.out.below B2.out) (by omega)).mono ?_
    rintro e w3 ⟨A3, c3, rfl, hown3, hb3⟩
    have O3 := Lib.hid hown3; have K3 : Hid (Blk w3 w1.heap.size 290 (nums .u32 Sha.IV.list)) := K2.out.kept hb3
    have J3 : Hid (Blk w3 w.heap.size 268 (bys (zbs 32))) := J2.out.kept hb3
    have B3 : Hid (Below w.heap.size w w3) := B2.out.trans (hb3.mono B2.out.size)
    have hs3 := hb3.size
    clear hb3 hown3 K2 J2 B2
    go_wp2_with fail
    refine (tail_any n _ (by omega)).mono ?_
    rintro e w4 ⟨A4, c4, rfl, hown4, hb4⟩
    have O3' : Hid (Own w4 w2.heap.size A3 n c3 xs) := O3.out.below hb4
    have O4 : Hid (Own w4 w3.heap.size A4 (9 + Sha.zeros n) c4 (Sha.pad n)) := hown4
    have K4 : Hid (Blk w4 w1.heap.size 290 (nums .u32 Sha.IV.list)) := K3.out.kept hb4
    have J4 : Hid (Blk w4 w.heap.size 268 (bys (zbs 32))) := J3.out.kept hb4
    have B4 : Hid (Below w.heap.size w w4) := B3.out.trans (hb4.mono B3.out.size)
    have hs4 := hb4.size
    have hzz : Sha.zeros n < 64 := Nat.mod_lt _ (by omega)
    clear hb4 hown4 O3 K3 J3 B3
    go_wp2_with (at_builtin; refine app_own (w0 := w4) rfl _ _ _ rfl _ _ eltB w2.heap.size _ _ _ rfl O3'.out _ _ _ ((Sha.pad n).map bv) rfl (by rw [List.length_map]; exact O4.out.len) O4.out.bs.2 (by intro u hu; exact bv_one u hu) ?_ ?_ (Below.refl _ _) ?_ ?_; rotate_right; intro A5 c5 w5 hown5 hbw5 hg5 hl5)
    · go_step3
      have hL : 64 * 0 + (n + (9 + Sha.zeros n)) = (xs ++ Sha.pad xs.length).length := by rw [List.length_append, Sha.pad_length, HA.out.1]; omega
      have O5 : Own w5 w2.heap.size A5 (n + (9 + Sha.zeros n)) c5 (xs ++ Sha.pad xs.length) := by
        have := Own.app (ys := Sha.pad n) hown5
        rw [HA.out.1]; exact this
      simp only [Exit.then]
      rename_i hk
      refine hk _ _ ?_
      refine HP.out _ _ ⟨_, _, _, _, _, _, _, _, _, _, _, _, _, _, _, _, _, _, _, _, _, _, _, _, _, _, _, _, _, _, _, _, _, _, _, _, _, _, _, _, _, _, _, _, _, _, _, _, _, _, _, _, _, w1.heap.size, 0, _, c5, A5, rfl, ?_, hL, hz1, ?_, ?_, ?_, ?_, ?_⟩
      · exact own_cap hown5
      · exact fun b off he => by have := own_low O5 he; omega
      · exact B4.out.trans (hbw5.mono (by omega))
      · exact (J4.out.grown hg5 (by have := O3'.out.lt; intro h; have := this _ h.symm; omega))
      · exact (K4.out.grown hg5 (by have := O3'.out.lt; intro h; have := this _ h.symm; omega))
      · exact O5.bs
    · omega
    · omega
    · omega
end Go.Proofs.YtjllhimhiekchaaGreat

/- The reference's Digest is the plain function; the code's Of. At most 2^45 bytes. -/
namespace Go.Proofs.YtjllhimhiekchaaGreat
open Go.RowKit
theorem of_any (A : Option Addr) (n c : Nat) (xss : List (List UInt8)) (w : World) (ha : Bss w A n xss) (hn : n ≤ 35184372088832) (hlen : xss.flatten.length ≤ 35184372088832) :
    Calls Tryz.prog 173 #[.slice A n c] w fun e w' => ∃ g, e = .returned (.slice (some ⟨g, 0, none⟩) 32 32) ∧ w.heap.size ≤ g ∧ Blk w' g 268 (bys (Sha.sum xss.flatten)) ∧ Below w.heap.size w w' := by
  have HA := Lib.hid ha; have HL := Lib.hid hlen
  clear ha
  go_enter Tryz.func173, Tryz.ntmps173
  go_wp2_with (first
    | (go_at_call 147; refine (concat_any A n c xss _ HA.out (by omega) (by omega)).mono ?_; rintro e w1 ⟨A1, m1, c1, rfl, ho1, hb1⟩
       have HO1 := Lib.hid ho1; have HB1 := Lib.hid hb1
       have hm1 : m1 ≤ 35184372088832 := by have := ho1.len; omega
       clear ho1 hb1)
    | (go_at_call 231; refine (sum_any A1 m1 c1 xss.flatten _ HO1.out.bs hm1).mono ?_; rintro e w2 ⟨rfl, hb2⟩
       have HB2 : Hid (Below w.heap.size w w2) := HB1.out.trans (hb2.mono HB1.out.size)
       clear hb2)
    | refine arr_alloc rfl _ rfl _ zb32 w2.heap.size rfl ?_
    | refine arr_store rfl _ (.tmp 3) (.tmp 6) rfl w2.heap.size (bys (Sha.sum xss.flatten)) rfl rfl _ _ (Blk.new w2 _ _) 32 sb32 rfl rfl (bys_one _) ?_)
  go_ret
  exact ⟨w2.heap.size, rfl, HB2.out.size, (Blk.new w2 _ _).row _, bel_row (HB2.out.alloc HB2.out.size _) HB2.out.size _⟩
end Go.Proofs.YtjllhimhiekchaaGreat

namespace Go.Proofs.YtjllhimhiekchaaGreat
open Go.RowKit
attribute [local irreducible] Y Ef WL WC WK WQ WM OpM
theorem copied {g : Nat} {t : TypeId} {w : World} (ks : List UInt8) (hk : ks.length ≤ 64) (h : Blk w g t ((List.replicate 64 (Value.int .u8 0)).toArray.toList.take 0 ++ ks.map bv ++ (List.replicate 64 (Value.int .u8 0)).toArray.toList.drop (0 + (ks.map bv).length)).toArray) :
  Blk w g t (bys (ks ++ zbs (64 - ks.length))) := by
 have e : (List.replicate 64 (Value.int .u8 0)).toArray.toList.take 0 ++ ks.map bv ++ (List.replicate 64 (Value.int .u8 0)).toArray.toList.drop (0 + (ks.map bv).length) = (ks ++ zbs (64 - ks.length)).map bv := by
  rw [List.toList_toArray, List.take_zero, List.nil_append, List.drop_replicate, List.length_map, Nat.zero_add, List.map_append]
  unfold zbs
  rw [List.map_replicate]
  rfl
 rw [e] at h
 exact h
theorem xor_step (l : List UInt8) (c : UInt8) (k : Nat) (hk : k < l.length) : ((l.take k).map (· ^^^ c) ++ l.drop k).set k (l.getD k 0 ^^^ c) = (l.take (k + 1)).map (· ^^^ c) ++ l.drop (k + 1) := by
 have hl : ((l.take k).map (· ^^^ c)).length = k := by simp; omega
 rw [List.set_append_right _ _ (by omega), hl, Nat.sub_self, List.drop_eq_getElem_cons hk, List.set_cons_zero, List.take_succ_eq_append_getElem hk, List.map_append, List.append_assoc]
 simp [hk]
theorem xor_get (l : List UInt8) (c : UInt8) (k : Nat) (hk : k < l.length) : ((l.take k).map (· ^^^ c) ++ l.drop k).getD k 0 = l.getD k 0 := by
 have hl : ((l.take k).map (· ^^^ c)).length = k := by simp; omega
 have h2 := List.getElem?_append_right (l₁ := (l.take k).map (· ^^^ c)) (l₂ := l.drop k) (i := k) (by omega)
 rw [List.getD_eq_getElem?_getD, h2, hl, Nat.sub_self]
 simp [hk]
theorem held_any (A : Option Addr) (n c : Nat) (xs : List UInt8) (x : UInt8) (w : World) (HA : Bs w A n xs) (hn : n ≤ 35184372088832) :
  Calls Tryz.prog 195 #[.slice A n c, .int .u8 (x.toNat : Int)] w fun e w' => ∃ g, e = .returned (.slice (some ⟨g, 0, none⟩) 64 64) ∧ w.heap.size ≤ g ∧ Blk w' g 5 (bys (Mac.held xs x)) ∧ Ext w w' := by
 have hk64 : ∀ ks : List UInt8, ks = (if 64 < n then Sha.sum xs else xs) → ks ++ zbs (64 - ks.length) = Mac.k64 xs := fun ks h => by rw [h]; unfold Mac.k64; simp only [HA.1]
 have hx := x.toNat_lt
 obtain ⟨X, hX⟩ : ∃ X, X = Mac.k64 xs := ⟨_, rfl⟩
 have hXl : X.length = 64 := by rw [hX]; exact Mac.k64_length _
 refine vc_enter1 31 Tryz.func195 rfl rfl rfl rfl ?_
 intro Q hret
 refine wc_seq ?_; intro K1 hK1
 have HK := HA; have E := Ext.refl w
 refine wc_region ?_
 refine wl_y (y_assign rfl) rfl ?_
 refine wl_nil ?_
 refine wq_then_norm (hK1 ?_)
 refine wc_seq ?_; intro K2 hK2
 refine wc_seq ?_; intro K3 hK3
 refine wc_region ?_
 refine wl_y (y_move rfl) rfl ?_
 have hE := E
 refine wl_y (y_len_slice rfl Tryz.underlying23) rfl ?_
 refine wl_y (y_gtr rfl rfl) rfl ?_
 refine wl_nil ?_
 refine wq_then_norm (hK3 ?_)
 refine wc_dec rfl (fun hc1 => ?_) (fun hc1 => ?_)
 ·skip
  refine wc_region ?_
  refine wl_y (y_move rfl) rfl ?_
  refine wl_ef (ef_lit (t := 145) Tryz.underlying145 (z := .slice none 0 0) (by kernel_rfl) rfl rfl rfl rfl rfl) rfl ?_
  rintro _ w1 ⟨g1, rfl, B1, hg1, ex⟩
  replace HK := HK.ext ex
  have E1 := ex
  refine wl_call Tryz.func173 rfl rfl rfl (of_any _ 1 1 [xs] _ (bss_one B1 HK) (by omega) (by simp [HA.1]; omega)) rfl ?_
  rintro e w2 ⟨g2, rfl, hg2, B2, ex⟩
  refine ⟨_, rfl, ?_⟩
  replace HK := HK.ext ex
  replace E := E1.tr ex
  replace HK := bs_blk' B2 (Sha.sum_length _)
  refine wl_y (y_assign rfl) rfl ?_
  refine wl_nil ?_
  refine wq_then_norm (hK2 ?_)
  refine wc_seq ?_; intro K4 hK4
  refine wc_region ?_
  refine wl_ef (ef_make (n := 64) (z := .int .u8 0) (bytes := 1) rfl rfl Tryz.underlying23 (by kernel_rfl) rfl rfl (by omega) (by omega) (by omega) (by omega)) rfl ?_
  rintro _ w3 ⟨g3, rfl, B3, hg3, ex⟩
  replace HK := HK.ext ex
  have hw3 : w.heap.size ≤ g3 := Nat.le_trans E.size hg3; replace E := E.tr ex
  refine wl_y (y_assign rfl) rfl ?_
  refine wl_nil ?_
  refine wq_then_norm (hK4 ?_)
  refine wc_seq ?_; intro K5 hK5
  refine wc_region ?_
  refine wl_y (y_move rfl) rfl ?_
  refine wl_y (y_move rfl) rfl ?_
  refine wl_ef (ef_copy rfl rfl Tryz.underlying23 (by kernel_rfl) B3 HK.2 (by rw [List.length_map, HK.1]; rfl) (by rw [List.length_map, HK.1]; simp) (by intro u hu; exact bv_one u hu)) rfl ?_
  rintro _ w4 ⟨rfl, B4, cg⟩
  have B5 := copied _ (by rw [HK.1]; omega) B4; rw [hk64 _ (by rw [if_pos (by omega)]; simp), ← hX] at B5; have E5 := E.chg cg hw3
  refine wl_nil ?_
  refine wq_then_norm (hK5 ?_)
  refine wc_seq ?_; intro K6 hK6
  refine wc_seq ?_; intro K7 hK7
  refine wc_region ?_
  refine wl_y (y_move rfl) rfl ?_
  refine wl_y (y_len_slice rfl Tryz.underlying23) rfl ?_
  refine wl_y (y_move rfl) rfl ?_
  refine wl_nil ?_
  refine wq_then_norm (hK7 ?_)
  refine wc_block ?_
  refine wc_loop (fun n' L wr => ∃ k : Nat, L = [(1, .int .u8 (x.toNat : Int)), (5, .slice (some ⟨g3, 0, none⟩) 64 64), (18, .int .i64 64), (19, .int .i64 (k : Int))] ∧ n' = 64 - k ∧ (k ≤ 64 ∧ Ext w wr ∧ Blk wr g3 5 (bys ((X.take k).map (· ^^^ x) ++ X.drop k)))) _ _ ⟨0, rfl, rfl, by omega, E5, by simpa using B5⟩ ⟨(by first | rfl | exact congrArg some (int_val (by omega))), rfl, (by first | rfl | exact congrArg some (int_val (by omega))), (by first | rfl | exact congrArg some (int_val (by omega))), trivial⟩ ?_
  rintro KL1 n' L wr ⟨k, rfl, rfl, hk, E6, B6⟩ hL1
  refine wc_seq ?_; intro K8 hK8
  refine wc_region ?_
  refine wl_y (y_lss rfl rfl) rfl ?_
  refine wl_nil ?_
  refine wq_then_norm (hK8 ?_)
  refine wc_seq ?_; intro K9 hK9
  refine wc_dec rfl (fun hc2 => ?_) (fun hc2 => ?_)
  ·skip
   refine wc_skip ?_
   refine wq_then_norm (hK9 ?_)
   refine wc_seq ?_; intro K10 hK10
   refine wc_block ?_
   refine wc_seq ?_; intro K11 hK11
   refine wc_region ?_
   refine wl_y (y_move rfl) rfl ?_
   refine wl_y (y_assign rfl) rfl ?_
   refine wl_nil ?_
   refine wq_then_norm (hK11 ?_)
   refine wc_region ?_
   refine wl_y (y_move rfl) rfl ?_
   refine wl_y (y_move rfl) rfl ?_
   have hxk := (X.getD k 0).toNat_lt
   refine wl_y (y_ixs1 rfl rfl Tryz.underlying23 (by kernel_rfl) rfl (by omega)) rfl ?_
   refine wl_y (y_load1 rfl Tryz.underlying5 rfl (B6.get (by rw [Nat.zero_add, bys_get (by simp; omega), xor_get X x k (by omega)]))) rfl ?_
   refine wl_y (y_move rfl) rfl ?_
   refine wl_y (y_xor rfl rfl (bits_u8 (by omega) (by omega)).2.2) rfl ?_
   refine wl_y (y_ixs1 rfl rfl Tryz.underlying23 (by kernel_rfl) rfl (by omega)) rfl ?_
   refine wl_ef (ef_storeB rfl rfl rfl (by kernel_rfl) B6 (by rw [bys_size]; simp; omega)) rfl ?_
   rintro _ w5 ⟨rfl, B7, cg⟩
   have B8 := B7.congr (cs' := bys ((X.take (k + 1)).map (· ^^^ x) ++ X.drop (k + 1))) (by rw [Nat.zero_add, ← xor_step X x k (by omega), ← bys_set, UInt8.toNat_xor]); have E7 := E6.chg cg hw3
   refine wl_nil ?_
   refine wq_blk_norm ?_
   refine wq_then_norm (hK10 ?_)
   refine wc_region ?_
   refine wl_y (y_add rfl rfl (i64_ok (by omega) (by omega))) rfl ?_
   refine wl_y (y_move rfl) rfl ?_
   refine wl_nil ?_
   refine wq_then_norm ?_
   refine hL1 _ _ ⟨k + 1, rfl, rfl, by omega, E7, B8⟩ (by omega) ⟨(by first | rfl | exact congrArg some (int_val (by omega))), rfl, (by first | rfl | exact congrArg some (int_val (by omega))), (by first | rfl | exact congrArg some (int_val (by omega))), trivial⟩
  ·skip
   refine wc_exit ?_
   refine wq_then_exit ?_
   refine wq_then_exit ?_
   refine wq_blk_hit ?_
   refine wq_then_norm (hK6 ?_)
   refine wc_seq ?_; intro K12 hK12
   refine wc_region ?_
   refine wl_y (y_move rfl) rfl ?_
   refine wl_y (y_assign rfl) rfl ?_
   refine wl_nil ?_
   refine wq_then_norm (hK12 ?_)
   refine wc_ret ?_
   refine hret rfl ?_
   exact ⟨g3, rfl, hw3, B6.congr (by rw [show k = 64 from by omega, List.take_of_length_le (by omega), List.drop_of_length_le (by omega), List.append_nil, hX]; rfl), E6⟩
 ·skip
  refine wc_skip ?_
  refine wq_then_norm (hK2 ?_)
  refine wc_seq ?_; intro K13 hK13
  refine wc_region ?_
  refine wl_ef (ef_make (n := 64) (z := .int .u8 0) (bytes := 1) rfl rfl Tryz.underlying23 (by kernel_rfl) rfl rfl (by omega) (by omega) (by omega) (by omega)) rfl ?_
  rintro _ w3 ⟨g3, rfl, B3, hg3, ex⟩
  replace HK := HK.ext ex
  have hw3 : w.heap.size ≤ g3 := Nat.le_trans E.size hg3; replace E := E.tr ex
  refine wl_y (y_assign rfl) rfl ?_
  refine wl_nil ?_
  refine wq_then_norm (hK13 ?_)
  refine wc_seq ?_; intro K14 hK14
  refine wc_region ?_
  refine wl_y (y_move rfl) rfl ?_
  refine wl_y (y_move rfl) rfl ?_
  refine wl_ef (ef_copy rfl rfl Tryz.underlying23 (by kernel_rfl) B3 HK.2 (by rw [List.length_map, HK.1]; exact (Nat.min_eq_left (by omega)).symm) (by rw [List.length_map, HK.1]; simp; omega) (by intro u hu; exact bv_one u hu)) rfl ?_
  rintro _ w4 ⟨rfl, B4, cg⟩
  have B5 := copied _ (by rw [HK.1]; omega) B4; rw [hk64 _ (by rw [if_neg (by omega)]), ← hX] at B5; have E5 := E.chg cg hw3
  refine wl_nil ?_
  refine wq_then_norm (hK14 ?_)
  refine wc_seq ?_; intro K15 hK15
  refine wc_seq ?_; intro K16 hK16
  refine wc_region ?_
  refine wl_y (y_move rfl) rfl ?_
  refine wl_y (y_len_slice rfl Tryz.underlying23) rfl ?_
  refine wl_y (y_move rfl) rfl ?_
  refine wl_nil ?_
  refine wq_then_norm (hK16 ?_)
  refine wc_block ?_
  refine wc_loop (fun n' L wr => ∃ k : Nat, L = [(1, .int .u8 (x.toNat : Int)), (5, .slice (some ⟨g3, 0, none⟩) 64 64), (18, .int .i64 64), (19, .int .i64 (k : Int))] ∧ n' = 64 - k ∧ (k ≤ 64 ∧ Ext w wr ∧ Blk wr g3 5 (bys ((X.take k).map (· ^^^ x) ++ X.drop k)))) _ _ ⟨0, rfl, rfl, by omega, E5, by simpa using B5⟩ ⟨(by first | rfl | exact congrArg some (int_val (by omega))), rfl, (by first | rfl | exact congrArg some (int_val (by omega))), (by first | rfl | exact congrArg some (int_val (by omega))), trivial⟩ ?_
  rintro KL1 n' L wr ⟨k, rfl, rfl, hk, E6, B6⟩ hL1
  refine wc_seq ?_; intro K17 hK17
  refine wc_region ?_
  refine wl_y (y_lss rfl rfl) rfl ?_
  refine wl_nil ?_
  refine wq_then_norm (hK17 ?_)
  refine wc_seq ?_; intro K18 hK18
  refine wc_dec rfl (fun hc2 => ?_) (fun hc2 => ?_)
  ·skip
   refine wc_skip ?_
   refine wq_then_norm (hK18 ?_)
   refine wc_seq ?_; intro K19 hK19
   refine wc_block ?_
   refine wc_seq ?_; intro K20 hK20
   refine wc_region ?_
   refine wl_y (y_move rfl) rfl ?_
   refine wl_y (y_assign rfl) rfl ?_
   refine wl_nil ?_
   refine wq_then_norm (hK20 ?_)
   refine wc_region ?_
   refine wl_y (y_move rfl) rfl ?_
   refine wl_y (y_move rfl) rfl ?_
   have hxk := (X.getD k 0).toNat_lt
   refine wl_y (y_ixs1 rfl rfl Tryz.underlying23 (by kernel_rfl) rfl (by omega)) rfl ?_
   refine wl_y (y_load1 rfl Tryz.underlying5 rfl (B6.get (by rw [Nat.zero_add, bys_get (by simp; omega), xor_get X x k (by omega)]))) rfl ?_
   refine wl_y (y_move rfl) rfl ?_
   refine wl_y (y_xor rfl rfl (bits_u8 (by omega) (by omega)).2.2) rfl ?_
   refine wl_y (y_ixs1 rfl rfl Tryz.underlying23 (by kernel_rfl) rfl (by omega)) rfl ?_
   refine wl_ef (ef_storeB rfl rfl rfl (by kernel_rfl) B6 (by rw [bys_size]; simp; omega)) rfl ?_
   rintro _ w5 ⟨rfl, B7, cg⟩
   have B8 := B7.congr (cs' := bys ((X.take (k + 1)).map (· ^^^ x) ++ X.drop (k + 1))) (by rw [Nat.zero_add, ← xor_step X x k (by omega), ← bys_set, UInt8.toNat_xor]); have E7 := E6.chg cg hw3
   refine wl_nil ?_
   refine wq_blk_norm ?_
   refine wq_then_norm (hK19 ?_)
   refine wc_region ?_
   refine wl_y (y_add rfl rfl (i64_ok (by omega) (by omega))) rfl ?_
   refine wl_y (y_move rfl) rfl ?_
   refine wl_nil ?_
   refine wq_then_norm ?_
   refine hL1 _ _ ⟨k + 1, rfl, rfl, by omega, E7, B8⟩ (by omega) ⟨(by first | rfl | exact congrArg some (int_val (by omega))), rfl, (by first | rfl | exact congrArg some (int_val (by omega))), (by first | rfl | exact congrArg some (int_val (by omega))), trivial⟩
  ·skip
   refine wc_exit ?_
   refine wq_then_exit ?_
   refine wq_then_exit ?_
   refine wq_blk_hit ?_
   refine wq_then_norm (hK15 ?_)
   refine wc_seq ?_; intro K21 hK21
   refine wc_region ?_
   refine wl_y (y_move rfl) rfl ?_
   refine wl_y (y_assign rfl) rfl ?_
   refine wl_nil ?_
   refine wq_then_norm (hK21 ?_)
   refine wc_ret ?_
   refine hret rfl ?_
   exact ⟨g3, rfl, hw3, B6.congr (by rw [show k = 64 from by omega, List.take_of_length_le (by omega), List.drop_of_length_le (by omega), List.append_nil, hX]; rfl), E6⟩
theorem tag_any (A B : Option Addr) (n c m d : Nat) (xs : List UInt8) (xss : List (List UInt8)) (w : World) (HA : Bs w A n xs) (hn : n ≤ 35184372088832) (HB : Bss w B m xss) (hm : m ≤ 35184372088832) (hl : xss.flatten.length ≤ 35184372088000) :
  Calls Tryz.prog 119 #[.slice A n c, .slice B m d] w fun e w' => ∃ g, e = .returned (.slice (some ⟨g, 0, none⟩) 32 32) ∧ w.heap.size ≤ g ∧ Blk w' g 268 (bys (Mac.tag xs xss.flatten)) ∧ Ext w w' := by
 have E := Ext.refl w
 refine vc_enter1 19 Tryz.func119 rfl rfl rfl rfl ?_
 intro Q hret
 refine wc_seq ?_; intro K1 hK1
 refine wc_region ?_
 refine wl_y (y_assign rfl) rfl ?_
 refine wl_nil ?_
 refine wq_then_norm (hK1 ?_)
 refine wc_seq ?_; intro K2 hK2
 refine wc_region ?_
 refine wl_y (y_move rfl) rfl ?_
 refine wl_call Tryz.func195 rfl rfl rfl (held_any A n c xs 54 _ HA hn) rfl ?_
 rintro e w1 ⟨g1, rfl, hg1, B1, ex⟩
 refine ⟨_, rfl, ?_⟩
 replace HA := HA.ext ex
 replace HB := HB.ext ex
 replace E := E.ext ex
 have H1 := bs_blk' B1 (Mac.held_length _ _)
 refine wl_y (y_move rfl) rfl ?_
 refine wl_call Tryz.func147 rfl rfl rfl (concat_any B m d xss _ HB (by omega) (by omega)) rfl ?_
 rintro e w2 ⟨A2, m2, c2, rfl, O2, ex⟩
 refine ⟨_, rfl, ?_⟩
 replace HA := HA.ext ex
 replace HB := HB.ext ex
 replace E := E.ext ex
 replace H1 := H1.ext ex
 have H2 := O2.bs; have hm2 := O2.len
 refine wl_ef (ef_lit (z := .slice none 0 0) Tryz.underlying145 (by kernel_rfl) rfl rfl rfl rfl rfl) rfl ?_
 rintro _ w3 ⟨g3, rfl, B3, hg3, ex⟩
 replace HA := HA.ext ex
 replace HB := HB.ext ex
 replace E := E.ext ex
 replace H1 := H1.ext ex
 replace H2 := H2.ext ex
 have S3 := bss_two B3 H1 H2
 refine wl_call Tryz.func147 rfl rfl rfl (concat_any _ 2 2 [Mac.held xs 54, xss.flatten] _ S3 (by omega) (by simp [Mac.held_length]; simp at hl; omega)) rfl ?_
 rintro e w4 ⟨A4, m4, c4, rfl, O4, ex⟩
 refine ⟨_, rfl, ?_⟩
 replace HA := HA.ext ex
 replace HB := HB.ext ex
 replace E := E.ext ex
 replace H1 := H1.ext ex
 replace H2 := H2.ext ex
 replace S3 := S3.ext ex
 have H4 := O4.bs; have hm4 := O4.len
 refine wl_ef (ef_lit (z := .slice none 0 0) Tryz.underlying145 (by kernel_rfl) rfl rfl rfl rfl rfl) rfl ?_
 rintro _ w5 ⟨g5, rfl, B5, hg5, ex⟩
 replace HA := HA.ext ex
 replace HB := HB.ext ex
 replace E := E.ext ex
 replace H1 := H1.ext ex
 replace H2 := H2.ext ex
 replace S3 := S3.ext ex
 replace H4 := H4.ext ex
 have S5 := bss_one B5 H4
 refine wl_call Tryz.func173 rfl rfl rfl (of_any _ 1 1 _ _ S5 (by omega) (by simp [Mac.held_length]; simp at hl; omega)) rfl ?_
 rintro e w6 ⟨g6, rfl, hg6, B6, ex⟩
 refine ⟨_, rfl, ?_⟩
 replace HA := HA.ext ex
 replace HB := HB.ext ex
 replace E := E.ext ex
 replace H1 := H1.ext ex
 replace H2 := H2.ext ex
 replace S3 := S3.ext ex
 replace H4 := H4.ext ex
 replace S5 := S5.ext ex
 have H6 := bs_blk' B6 (Sha.sum_length _)
 refine wl_y (y_assign rfl) rfl ?_
 refine wl_nil ?_
 refine wq_then_norm (hK2 ?_)
 refine wc_seq ?_; intro K3 hK3
 refine wc_region ?_
 refine wl_y (y_move rfl) rfl ?_
 refine wl_call Tryz.func195 rfl rfl rfl (held_any A n c xs 92 _ HA hn) rfl ?_
 rintro e w7 ⟨g7, rfl, hg7, B7, ex⟩
 refine ⟨_, rfl, ?_⟩
 replace HA := HA.ext ex
 replace HB := HB.ext ex
 replace E := E.ext ex
 replace H1 := H1.ext ex
 replace H2 := H2.ext ex
 replace S3 := S3.ext ex
 replace H4 := H4.ext ex
 replace S5 := S5.ext ex
 replace H6 := H6.ext ex
 have H7 := bs_blk' B7 (Mac.held_length _ _)
 refine wl_y (y_move rfl) rfl ?_
 refine wl_ef (ef_lit (z := .slice none 0 0) Tryz.underlying145 (by kernel_rfl) rfl rfl rfl rfl rfl) rfl ?_
 rintro _ w8 ⟨g8, rfl, B8, hg8, ex⟩
 replace HA := HA.ext ex
 replace HB := HB.ext ex
 replace E := E.ext ex
 replace H1 := H1.ext ex
 replace H2 := H2.ext ex
 replace S3 := S3.ext ex
 replace H4 := H4.ext ex
 replace S5 := S5.ext ex
 replace H6 := H6.ext ex
 replace H7 := H7.ext ex
 have S8 := bss_two B8 H7 H6; have h8 := E.size
 refine wl_call Tryz.func173 rfl rfl rfl (of_any _ 2 2 _ _ S8 (by omega) (by simp [Mac.held_length, Sha.sum_length])) rfl ?_
 rintro e w9 ⟨g9, rfl, hg9, B9, ex⟩
 refine ⟨_, rfl, ?_⟩
 replace HA := HA.ext ex
 replace HB := HB.ext ex
 replace E := E.ext ex
 replace H1 := H1.ext ex
 replace H2 := H2.ext ex
 replace S3 := S3.ext ex
 replace H4 := H4.ext ex
 replace S5 := S5.ext ex
 replace H6 := H6.ext ex
 replace H7 := H7.ext ex
 replace S8 := S8.ext ex
 skip
 refine wl_y (y_assign rfl) rfl ?_
 refine wl_nil ?_
 refine wq_then_norm (hK3 ?_)
 refine wc_ret ?_
 refine hret rfl ?_
 exact ⟨g9, rfl, by omega, B9.congr (by simp [Mac.tag]), E⟩
end Go.Proofs.YtjllhimhiekchaaGreat
