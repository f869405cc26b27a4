/- From a row's reading of a welcome or an info to the walk's word for it, with capacities. No conditions beyond the row's own. -/
import Derived.Test.YtjllhimhiekchaaGreatWlB
import Derived.Test.YtjllhimhiekchaaGreatWireA
import Derived.Test.YtjllhimhiekchaaGreatWireR
import Derived.Test.YtjllhimhiekchaaGreatSecA
import Derived.Test.YtjllhimhiekchaaGreatChunkA
import Derived.Test.YtjllhimhiekchaaGreatVi
import Derived.Test.YtjllhimhiekchaaGreatEdC
import Derived.Test.YtjllhimhiekchaaGreatFieldI
import Derived.Test.YtjllhimhiekchaaGreatKdfC
import Derived.Test.YtjllhimhiekchaaGreatMuC
import Derived.Test.YtjllhimhiekchaaGreatMsV
import Derived.Test.YtjllhimhiekchaaGreatVk
/- welcome.Open and what the law's document says of it, plainly and in memory. No conditions: contracts of functions. -/
namespace Go.Proofs.YtjllhimhiekchaaGreat
open Go.RowKit
attribute [local irreducible] Y Ef WL WC WK WQ WM OpM WN WF OpN WJ OpJ WG OpG WLr
open Wire Nd Hk
/-! Blocks in which no byte lies. -/
def noU8 (cs : Array Value) : Bool := cs.toList.all fun v => match v with | .int .u8 _ => false | _ => true
theorem Bs.out8 {w : World} {A : Option Addr} {n b : Nat} {t : TypeId} {cs : Array Value} {xs : List UInt8} (H : Bs w A n xs) (B : Blk w b t cs) (h8 : noU8 cs = true) (hn : 0 < n) (o : Nat) : A ≠ some ⟨b, o, none⟩ := fun e => by
 obtain ⟨b', off, hA, _, hc⟩ := H.get (k := 0) hn
 rw [e] at hA
 injection hA with hA
 injection hA with hA _ _
 subst hA
 rw [B.cell] at hc
 rw [← Array.getElem?_toList] at hc
 have h := List.all_eq_true.1 h8 _ (List.mem_of_getElem? hc)
 cases h
theorem kp_out {w : World} {A : Option Addr} {n : Nat} {xs : List UInt8} {S : List Nat} (H : Bs w A n xs) (hS : ∀ g ∈ S, ∃ t cs, Blk w g t cs ∧ noU8 cs = true) : Kp w.heap.size S (fun w => Bs w A n xs) w :=
 Kp.bs H fun hn g hg o => by obtain ⟨t, cs, B, h⟩ := hS g hg; exact H.out8 B h hn o
theorem out_nil {w : World} : ∀ g ∈ ([] : List Nat), ∃ t cs, Blk w g t cs ∧ noU8 cs = true := fun _ h => by cases h
theorem out_cons {w : World} {a : Nat} {S : List Nat} {t : TypeId} {cs : Array Value} (B : Blk w a t cs) (h : noU8 cs = true) (hS : ∀ g ∈ S, ∃ t cs, Blk w g t cs ∧ noU8 cs = true) : ∀ g ∈ a :: S, ∃ t cs, Blk w g t cs ∧ noU8 cs = true := fun g hg => by
 rcases List.mem_cons.1 hg with rfl | hg
 ·exact ⟨t, cs, B, h⟩
 ·exact hS g hg
/-! Welcomes whose slices have their capacities; what a welcome has for one. -/
def gotV (g : Hd) (ep : Nat) (t u tg : Hd) (z : Int) (sg a b c d e f g' h i j k l y : Hd) : Array Value := #[.slice g.A g.n g.c, .int .u64 (ep : Int), .slice t.A t.n t.c, .slice u.A u.n u.c, .slice tg.A tg.n tg.c, .int .i64 z, .slice sg.A sg.n sg.c, .slice a.A a.n a.c, .slice b.A b.n b.c, .slice c.A c.n c.c, .slice d.A d.n d.c, .slice e.A e.n e.c, .slice f.A f.n f.c, .slice g'.A g'.n g'.c, .slice h.A h.n h.c, .slice i.A i.n i.c, .slice j.A j.n j.c, .slice k.A k.n k.c, .slice l.A l.n l.c, .slice y.A y.n y.c]
def zGotV : Array Value := gotV nilH 0 nilH nilH nilH 0 nilH nilH nilH nilH nilH nilH nilH nilH nilH nilH nilH nilH nilH nilH
theorem inf_out {w : World} {cs : Array Value} {x : Inf} {S : List Nat} (H : InfAt w cs x) (hS : ∀ g ∈ S, ∃ t cs, Blk w g t cs ∧ noU8 cs = true) : Kp w.heap.size S (fun w => InfAt w cs x) w :=
 ⟨Nat.le_refl _, fun w2 hw => InfC.imp H fun _ _ b => (kp_out b hS).2 w2 hw⟩
/-! What a welcome has for a package, plainly. -/
end Go.Proofs.YtjllhimhiekchaaGreat

namespace Go.Proofs.YtjllhimhiekchaaGreat
open Go.ChangeShapes Go.WideShapes Go.ChangeAt Go.RowKit
section
variable {H : Type} {enc : TypeId × Value → H} {W : World} {base : Nat} {spare : Nat → Bool} {held : Bool}
theorem open_infc {v : Value} {d : DataW H} {p : List MemPlace} (h : DataW.Trod enc Tryz.prog W base spare held 42 v d p) : ∃ cs x, v = .agg cs ∧ InfAc W cs x := by
 obtain ⟨fuel, hf⟩ := h
 obtain ⟨x, hx⟩ := trod_inf hf
 obtain ⟨_, hl, hfs⟩ := trod_struct Tryz.underlying42 hf
 refine ⟨_, x, agg_of rfl (by rw [hl]; decide +kernel), hx, fun A' n' c' e' => ?_⟩
 have c0 : Tryz.prog.cellsOf 23 = 1 := by kernel_rfl
 obtain ⟨_, t3⟩ := hfs 3 _ rfl
 obtain ⟨A, n, c, r, e, _, hc⟩ := trod_bytesC t3
 have q := take1 (i := 6) c0 e
 have e2 : v.cells.toList[6]? = some (.slice A' n' c') := by simpa using e'
 rw [q] at e2
 injection e2 with e2
 injection e2 with _ e3 e4
 omega
end
end Go.Proofs.YtjllhimhiekchaaGreat
