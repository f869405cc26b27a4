/- What the message layer's reader takes: packages, proposals, items, steps, commits, messages, contexts, each in memory that the call made. No conditions: contracts of the program's functions. -/
import Derived.Test.YtpgalbgonmclaaaMsV
namespace Go.Proofs.Ytpgalbgonmclaaa
open Go.RowKit
attribute [local irreducible] Y Ef WL WC WK WQ WM OpM WN WF OpN WJ OpJ WG OpG
open Wire Nd M20
/-! In memory from a block on. -/
def PackF (base : Nat) (w : World) (cs : Array Value) (p : Pack) : Prop := PackC (fun h xs => Fb base w h.A h.n xs) cs p
def PropF (base : Nat) (w : World) (cs : Array Value) (p : Prop20) : Prop := PropC (fun h xs => Fb base w h.A h.n xs) cs p
def ItemF (base : Nat) (w : World) (cs : Array Value) (x : Item20) : Prop :=
  ∃ r i h0 h1 h2 s h4 h5 g l0 l1 l2 t l4 l5, cs = itmV r x.prop.kind i h0 h1 h2 s h4 h5 g l0 l1 l2 t l4 l5 x.prop.at_ ∧ Fb base w r.A r.n x.ref ∧ PropF base w (propV x.prop.kind i h0 h1 h2 s h4 h5 g l0 l1 l2 t l4 l5 x.prop.at_) x.prop
def BxdF (base : Nat) (w : World) (cs : Array Value) (x : Bxd) : Prop := ∃ h0 h1, cs = twoV h0 h1 ∧ Fb base w h0.A h0.n x.enc ∧ Fb base w h1.A h1.n x.box
def StpF (base : Nat) (w : World) (cs : Array Value) (x : Stp) : Prop := ∃ h0 h1, cs = twoV h0 h1 ∧ Fb base w h0.A h0.n x.box ∧ ElsF base (BxdF base) 2 w h1.A h1.n x.to
def WayF (base : Nat) (w : World) (cs : Array Value) (x : Way20) : Prop :=
  ∃ h0 h1 h2 s h4 h5 t, cs = wayV h0 h1 h2 s h4 h5 t ∧ LeafF base w (leafV h0 h1 h2 s h4 h5) x.leaf ∧ ElsF base (StpF base) 2 w t.A t.n x.steps
def ComF (base : Nat) (w : World) (cs : Array Value) (x : Com20) : Prop :=
  ∃ it h0 h1 h2 s h4 h5 t, cs = comV it x.has h0 h1 h2 s h4 h5 t ∧ ElsF base (ItemF base) 17 w it.A it.n x.items ∧ WayF base w (wayV h0 h1 h2 s h4 h5 t) x.way
def MsgF (base : Nat) (w : World) (cs : Array Value) (m : Mess) : Prop :=
  ∃ gr i h0 h1 h2 s h4 h5 g l0 l1 l2 t l4 l5 it c0 c1 c2 q c4 c5 ct sg tg mb, cs = msgV gr m.epoch m.frm m.kind m.prop.kind i h0 h1 h2 s h4 h5 g l0 l1 l2 t l4 l5 m.prop.at_ it m.com.has c0 c1 c2 q c4 c5 ct sg tg mb ∧ m.epoch < 18446744073709551616 ∧ m.kind < 256 ∧ (-9223372036854775808 ≤ m.frm ∧ m.frm ≤ 9223372036854775807) ∧ Fb base w gr.A gr.n m.group ∧
    PropF base w (propV m.prop.kind i h0 h1 h2 s h4 h5 g l0 l1 l2 t l4 l5 m.prop.at_) m.prop ∧ ComF base w (comV it m.com.has c0 c1 c2 q c4 c5 ct) m.com ∧ Fb base w sg.A sg.n m.sig ∧ Fb base w tg.A tg.n m.tag ∧ Fb base w mb.A mb.n m.member
def CtxF (base : Nat) (w : World) (cs : Array Value) (x : Ctx) : Prop := CtxC (fun h xs => Fb base w h.A h.n xs) cs x
def InfF (base : Nat) (w : World) (cs : Array Value) (x : Inf) : Prop := InfC (fun h xs => Fb base w h.A h.n xs) cs x
def GstF (base : Nat) (w : World) (cs : Array Value) (x : Gst) : Prop := GstC (fun h xs => Fb base w h.A h.n xs) cs x
def WelF (base : Nat) (w : World) (cs : Array Value) (x : Wel) : Prop := ∃ h0 h1, cs = twoV h0 h1 ∧ ElsF base (GstF base) 3 w h0.A h0.n x.guests ∧ Fb base w h1.A h1.n x.info
section
variable {base b : Nat} {w : World} {cs : Array Value} {S : List Nat}
theorem PackF.mono {x : Pack} (h : PackF base w cs x) (hb : b ≤ base) : PackF b w cs x := PackC.imp h fun _ _ k => k.mono hb
theorem PropF.mono {x : Prop20} (h : PropF base w cs x) (hb : b ≤ base) : PropF b w cs x := PropC.imp h fun _ _ k => k.mono hb
theorem CtxF.mono {x : Ctx} (h : CtxF base w cs x) (hb : b ≤ base) : CtxF b w cs x := CtxC.imp h fun _ _ k => k.mono hb
theorem InfF.mono {x : Inf} (h : InfF base w cs x) (hb : b ≤ base) : InfF b w cs x := InfC.imp h fun _ _ k => k.mono hb
theorem GstF.mono {x : Gst} (h : GstF base w cs x) (hb : b ≤ base) : GstF b w cs x := GstC.imp h fun _ _ k => k.mono hb
theorem BxdF.mono {x : Bxd} (h : BxdF base w cs x) (hb : b ≤ base) : BxdF b w cs x := by
  obtain ⟨h0, h1, e, k0, k1⟩ := h; exact ⟨h0, h1, e, k0.mono hb, k1.mono hb⟩
theorem StpF.mono {x : Stp} (h : StpF base w cs x) (hb : b ≤ base) : StpF b w cs x := by
  obtain ⟨h0, h1, e, k0, k1⟩ := h; exact ⟨h0, h1, e, k0.mono hb, k1.mono hb fun _ _ h => BxdF.mono h hb⟩
theorem ItemF.mono {x : Item20} (h : ItemF base w cs x) (hb : b ≤ base) : ItemF b w cs x := by
  obtain ⟨r, i, h0, h1, h2, s, h4, h5, g, l0, l1, l2, t, l4, l5, e, k0, k1⟩ := h; exact ⟨r, i, h0, h1, h2, s, h4, h5, g, l0, l1, l2, t, l4, l5, e, k0.mono hb, PropF.mono k1 hb⟩
theorem WayF.mono {x : Way20} (h : WayF base w cs x) (hb : b ≤ base) : WayF b w cs x := by
  obtain ⟨h0, h1, h2, s, h4, h5, t, e, k0, k1⟩ := h; exact ⟨h0, h1, h2, s, h4, h5, t, e, LeafF.mono k0 hb, k1.mono hb fun _ _ h => StpF.mono h hb⟩
theorem ComF.mono {x : Com20} (h : ComF base w cs x) (hb : b ≤ base) : ComF b w cs x := by
  obtain ⟨it, h0, h1, h2, s, h4, h5, t, e, k0, k1⟩ := h; exact ⟨it, h0, h1, h2, s, h4, h5, t, e, k0.mono hb fun _ _ h => ItemF.mono h hb, WayF.mono k1 hb⟩
theorem MsgF.mono {x : Mess} (h : MsgF base w cs x) (hb : b ≤ base) : MsgF b w cs x := by
  obtain ⟨gr, i, h0, h1, h2, s, h4, h5, g, l0, l1, l2, t, l4, l5, it, c0, c1, c2, q, c4, c5, ct, sg, tg, mb, e, a, a1, a2, d, f, j, k, l, o⟩ := h
  exact ⟨gr, i, h0, h1, h2, s, h4, h5, g, l0, l1, l2, t, l4, l5, it, c0, c1, c2, q, c4, c5, ct, sg, tg, mb, e, a, a1, a2, d.mono hb, PropF.mono f hb, ComF.mono j hb, k.mono hb, l.mono hb, o.mono hb⟩
theorem WelF.mono {x : Wel} (h : WelF base w cs x) (hb : b ≤ base) : WelF b w cs x := by
  obtain ⟨h0, h1, e, k0, k1⟩ := h; exact ⟨h0, h1, e, k0.mono hb fun _ _ h => GstF.mono h hb, k1.mono hb⟩
theorem PackF.at {x : Pack} (h : PackF base w cs x) : PackAt w cs x := PackC.imp h fun _ _ k => k.1
theorem PropF.at {x : Prop20} (h : PropF base w cs x) : PropAt w cs x := PropC.imp h fun _ _ k => k.1
theorem CtxF.at {x : Ctx} (h : CtxF base w cs x) : CtxAt w cs x := CtxC.at (CtxC.imp h fun _ _ k => k.1)
theorem InfF.at {x : Inf} (h : InfF base w cs x) : InfAt w cs x := InfC.imp h fun _ _ k => k.1
theorem GstF.at {x : Gst} (h : GstF base w cs x) : GstAt w cs x := GstC.imp h fun _ _ k => k.1
theorem BxdF.at {x : Bxd} (h : BxdF base w cs x) : BxdAt w cs x := by obtain ⟨h0, h1, e, k0, k1⟩ := h; exact ⟨h0, h1, e, k0.1, k1.1⟩
theorem ElsF.ats {α : Type} {R R' : World → Array Value → α → Prop} {sz n : Nat} {A : Option Addr} {zs : List α} (h : ElsF base R sz w A n zs) (hR : ∀ cs x, R w cs x → R' w cs x) : Els R' sz w A n zs := (h.mono (Nat.le_refl _) hR).1
theorem StpF.at {x : Stp} (h : StpF base w cs x) : StpAt w cs x := by obtain ⟨h0, h1, e, k0, k1⟩ := h; exact ⟨h0, h1, e, k0.1, k1.ats fun _ _ h => BxdF.at h⟩
theorem ItemF.at {x : Item20} (h : ItemF base w cs x) : ItemAt w cs x := by
  obtain ⟨r, i, h0, h1, h2, s, h4, h5, g, l0, l1, l2, t, l4, l5, e, k0, k1⟩ := h; exact ⟨r, i, h0, h1, h2, s, h4, h5, g, l0, l1, l2, t, l4, l5, e, k0.1, PropF.at k1⟩
theorem WayF.at {x : Way20} (h : WayF base w cs x) : WayAt w cs x := by
  obtain ⟨h0, h1, h2, s, h4, h5, t, e, k0, k1⟩ := h; exact ⟨h0, h1, h2, s, h4, h5, t, e, LeafF.at k0, k1.ats fun _ _ h => StpF.at h⟩
theorem ComF.at {x : Com20} (h : ComF base w cs x) : ComAt w cs x := by
  obtain ⟨it, h0, h1, h2, s, h4, h5, t, e, k0, k1⟩ := h; exact ⟨it, h0, h1, h2, s, h4, h5, t, e, k0.ats fun _ _ h => ItemF.at h, WayF.at k1⟩
theorem MsgF.at {x : Mess} (h : MsgF base w cs x) : MsgAt w cs x := by
  obtain ⟨gr, i, h0, h1, h2, s, h4, h5, g, l0, l1, l2, t, l4, l5, it, c0, c1, c2, q, c4, c5, ct, sg, tg, mb, e, a, a1, a2, d, f, j, k, l, o⟩ := h
  exact ⟨gr, i, h0, h1, h2, s, h4, h5, g, l0, l1, l2, t, l4, l5, it, c0, c1, c2, q, c4, c5, ct, sg, tg, mb, e, a, a1, a2, d.1, PropF.at f, ComF.at j, k.1, l.1, o.1⟩
theorem WelF.at {x : Wel} (h : WelF base w cs x) : WelAt w cs x := by
  obtain ⟨h0, h1, e, k0, k1⟩ := h; exact ⟨h0, h1, e, k0.ats fun _ _ h => GstF.at h, k1.1⟩
theorem PackF.kk {x : Pack} (h : PackF base w cs x) (hS : ∀ g ∈ S, g < base) : Kp w.heap.size S (fun w => PackF base w cs x) w := ⟨Nat.le_refl _, fun w2 hw => PackC.imp h fun _ _ k => (k.kk hS).2 w2 hw⟩
theorem PropF.kk {x : Prop20} (h : PropF base w cs x) (hS : ∀ g ∈ S, g < base) : Kp w.heap.size S (fun w => PropF base w cs x) w := ⟨Nat.le_refl _, fun w2 hw => PropC.imp h fun _ _ k => (k.kk hS).2 w2 hw⟩
theorem CtxF.kk {x : Ctx} (h : CtxF base w cs x) (hS : ∀ g ∈ S, g < base) : Kp w.heap.size S (fun w => CtxF base w cs x) w := ⟨Nat.le_refl _, fun w2 hw => CtxC.imp h fun _ _ k => (k.kk hS).2 w2 hw⟩
theorem GstF.kk {x : Gst} (h : GstF base w cs x) (hS : ∀ g ∈ S, g < base) : Kp w.heap.size S (fun w => GstF base w cs x) w := ⟨Nat.le_refl _, fun w2 hw => GstC.imp h fun _ _ k => (k.kk hS).2 w2 hw⟩
theorem InfF.kk {x : Inf} (h : InfF base w cs x) (hS : ∀ g ∈ S, g < base) : Kp w.heap.size S (fun w => InfF base w cs x) w := ⟨Nat.le_refl _, fun w2 hw => InfC.imp h fun _ _ k => (k.kk hS).2 w2 hw⟩
theorem BxdF.kk {x : Bxd} (h : BxdF base w cs x) (hS : ∀ g ∈ S, g < base) : Kp w.heap.size S (fun w => BxdF base w cs x) w := by
  obtain ⟨h0, h1, e, k0, k1⟩ := h; exact ⟨Nat.le_refl _, fun w2 hw => ⟨h0, h1, e, (k0.kk hS).2 w2 hw, (k1.kk hS).2 w2 hw⟩⟩
theorem StpF.kk {x : Stp} (h : StpF base w cs x) (hS : ∀ g ∈ S, g < base) : Kp w.heap.size S (fun w => StpF base w cs x) w := by
  obtain ⟨h0, h1, e, k0, k1⟩ := h; exact ⟨Nat.le_refl _, fun w2 hw => ⟨h0, h1, e, (k0.kk hS).2 w2 hw, (k1.kk (by omega) hS fun _ _ h => BxdF.kk h hS).2 w2 hw⟩⟩
theorem ItemF.kk {x : Item20} (h : ItemF base w cs x) (hS : ∀ g ∈ S, g < base) : Kp w.heap.size S (fun w => ItemF base w cs x) w := by
  obtain ⟨r, i, h0, h1, h2, s, h4, h5, g, l0, l1, l2, t, l4, l5, e, k0, k1⟩ := h; exact ⟨Nat.le_refl _, fun w2 hw => ⟨r, i, h0, h1, h2, s, h4, h5, g, l0, l1, l2, t, l4, l5, e, (k0.kk hS).2 w2 hw, (PropF.kk k1 hS).2 w2 hw⟩⟩
theorem WayF.kk {x : Way20} (h : WayF base w cs x) (hS : ∀ g ∈ S, g < base) : Kp w.heap.size S (fun w => WayF base w cs x) w := by
  obtain ⟨h0, h1, h2, s, h4, h5, t, e, k0, k1⟩ := h; exact ⟨Nat.le_refl _, fun w2 hw => ⟨h0, h1, h2, s, h4, h5, t, e, (LeafF.kk k0 hS).2 w2 hw, (k1.kk (by omega) hS fun _ _ h => StpF.kk h hS).2 w2 hw⟩⟩
theorem ComF.kk {x : Com20} (h : ComF base w cs x) (hS : ∀ g ∈ S, g < base) : Kp w.heap.size S (fun w => ComF base w cs x) w := by
  obtain ⟨it, h0, h1, h2, s, h4, h5, t, e, k0, k1⟩ := h; exact ⟨Nat.le_refl _, fun w2 hw => ⟨it, h0, h1, h2, s, h4, h5, t, e, (k0.kk (by omega) hS fun _ _ h => ItemF.kk h hS).2 w2 hw, (WayF.kk k1 hS).2 w2 hw⟩⟩
theorem MsgF.kk {x : Mess} (h : MsgF base w cs x) (hS : ∀ g ∈ S, g < base) : Kp w.heap.size S (fun w => MsgF base w cs x) w := by
  obtain ⟨gr, i, h0, h1, h2, s, h4, h5, g, l0, l1, l2, t, l4, l5, it, c0, c1, c2, q, c4, c5, ct, sg, tg, mb, e, a, a1, a2, d, f, j, k, l, o⟩ := h
  exact ⟨Nat.le_refl _, fun w2 hw => ⟨gr, i, h0, h1, h2, s, h4, h5, g, l0, l1, l2, t, l4, l5, it, c0, c1, c2, q, c4, c5, ct, sg, tg, mb, e, a, a1, a2, (d.kk hS).2 w2 hw, (PropF.kk f hS).2 w2 hw, (ComF.kk j hS).2 w2 hw, (k.kk hS).2 w2 hw, (l.kk hS).2 w2 hw, (o.kk hS).2 w2 hw⟩⟩
theorem WelF.kk {x : Wel} (h : WelF base w cs x) (hS : ∀ g ∈ S, g < base) : Kp w.heap.size S (fun w => WelF base w cs x) w := by
  obtain ⟨h0, h1, e, k0, k1⟩ := h; exact ⟨Nat.le_refl _, fun w2 hw => ⟨h0, h1, e, (k0.kk (by omega) hS fun _ _ h => GstF.kk h hS).2 w2 hw, (k1.kk hS).2 w2 hw⟩⟩
end
def zPackV : Array Value := packV nilH nilH nilH nilH 0 nilH nilH nilH
theorem PackF.zero (base : Nat) (w : World) : PackF base w zPackV Pack.zero := ⟨nilH, nilH, nilH, nilH, nilH, nilH, nilH, rfl, by decide, Fb.nil _ _ _, Fb.nil _ _ _, Fb.nil _ _ _, Fb.nil _ _ _, Fb.nil _ _ _, Fb.nil _ _ _, Fb.nil _ _ _⟩
theorem PropF.zero (base : Nat) (w : World) : PropF base w zPropV Prop20.zero := ⟨nilH, nilH, nilH, nilH, nilH, nilH, nilH, nilH, nilH, nilH, nilH, nilH, rfl, by decide, by decide, by decide, by decide, Fb.nil _ _ _, Fb.nil _ _ _, Fb.nil _ _ _, Fb.nil _ _ _, Fb.nil _ _ _, Fb.nil _ _ _, Fb.nil _ _ _, Fb.nil _ _ _, Fb.nil _ _ _, Fb.nil _ _ _, Fb.nil _ _ _, Fb.nil _ _ _⟩
section
variable {N gi gr : Nat} {S : List Nat} {s : St}
theorem packV_inj {i h0 h1 h2 h4 h5 g i' i0 i1 i2 i4 i5 g' : Hd} {s t : Nat} (e : packV i h0 h1 h2 s h4 h5 g = packV i' i0 i1 i2 t i4 i5 g') : i = i' ∧ h0 = i0 ∧ h1 = i1 ∧ h2 = i2 ∧ h4 = i4 ∧ h5 = i5 ∧ g = g' := by
  have e' := congrArg Array.toList e
  simp only [packV, List.cons.injEq, and_true] at e'
  obtain ⟨a, a0, a1, a2, _, a4, a5, a6⟩ := e'
  exact ⟨hd_eq a, hd_eq a0, hd_eq a1, hd_eq a2, hd_eq a4, hd_eq a5, hd_eq a6⟩
theorem PropF.mk {base : Nat} {w : World} {p : Prop20} {i h0 h1 h2 h4 h5 g l0 l1 l2 l4 l5 : Hd} (h : PackF base w (packV i h0 h1 h2 p.pack.leaf.src h4 h5 g) p.pack) (h' : LeafF base w (leafV l0 l1 l2 p.leaf.src l4 l5) p.leaf) (hk : p.kind < 256) (hz : -9223372036854775808 ≤ p.at_ ∧ p.at_ ≤ 9223372036854775807) :
    PropF base w (propV p.kind i h0 h1 h2 p.pack.leaf.src h4 h5 g l0 l1 l2 p.leaf.src l4 l5 p.at_) p := by
  obtain ⟨i', i0, i1, i2, i4, i5, g', e, hs, b, b0, b1, b2, b4, b5, b6⟩ := h
  obtain ⟨rfl, rfl, rfl, rfl, rfl, rfl, rfl⟩ := packV_inj e
  obtain ⟨j0, j1, j2, j4, j5, e', ht, d0, d1, d2, d4, d5⟩ := h'
  obtain ⟨rfl, rfl, rfl, rfl, rfl⟩ := leafV_inj e'
  exact ⟨_, _, _, _, _, _, _, _, _, _, _, _, rfl, hk, hs, ht, hz, b, b0, b1, b2, b4, b5, b6, d0, d1, d2, d4, d5⟩
end
end Go.Proofs.Ytpgalbgonmclaaa
