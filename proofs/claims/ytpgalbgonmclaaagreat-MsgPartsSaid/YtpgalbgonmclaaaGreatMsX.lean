/- What the message layer's reader takes: packages, proposals, items, steps, commits, messages, contexts, each in memory that the call made. No conditions: contracts of the program's functions. -/
import Derived.Test.YtpgalbgonmclaaaGreatMsV
namespace Go.Proofs.YtpgalbgonmclaaaGreat
open Go.RowKit
attribute [local irreducible] Y Ef WL WC WK WQ WM OpM WN WF OpN WJ OpJ
open Wire Nd M20
/-! In memory from a block on. -/
def PackF (base : Nat) (w : World) (cs : Array Value) (p : Pack) : Prop := PackC (fun h xs => Fb base w h.A h.n xs) cs p
def PropF (base : Nat) (w : World) (cs : Array Value) (p : Prop20) : Prop := PropC (fun h xs => Fb base w h.A h.n xs) cs p
def ItemF (base : Nat) (w : World) (cs : Array Value) (x : Item20) : Prop :=
  ∃ r i h0 h1 h2 s h4 h5 g l0 l1 l2 t l4 l5, cs = itmV r x.prop.kind i h0 h1 h2 s h4 h5 g l0 l1 l2 t l4 l5 x.prop.at_ ∧ Fb base w r.A r.n x.ref ∧ PropF base w (propV x.prop.kind i h0 h1 h2 s h4 h5 g l0 l1 l2 t l4 l5 x.prop.at_) x.prop
def BxdF (base : Nat) (w : World) (cs : Array Value) (x : Bxd) : Prop := ∃ h0 h1, cs = twoV h0 h1 ∧ Fb base w h0.A h0.n x.enc ∧ Fb base w h1.A h1.n x.box
def StpF (base : Nat) (w : World) (cs : Array Value) (x : Stp) : Prop := ∃ h0 h1, cs = twoV h0 h1 ∧ Fb base w h0.A h0.n x.box ∧ ElsF base (BxdF base) 2 w h1.A h1.n x.to
def WayF (base : Nat) (w : World) (cs : Array Value) (x : Way20) : Prop :=
  ∃ h0 h1 h2 s h4 h5 t, cs = wayV h0 h1 h2 s h4 h5 t ∧ LeafF base w (leafV h0 h1 h2 s h4 h5) x.leaf ∧ ElsF base (StpF base) 2 w t.A t.n x.steps
def ComF (base : Nat) (w : World) (cs : Array Value) (x : Com20) : Prop :=
  ∃ it h0 h1 h2 s h4 h5 t, cs = comV it x.has h0 h1 h2 s h4 h5 t ∧ ElsF base (ItemF base) 17 w it.A it.n x.items ∧ WayF base w (wayV h0 h1 h2 s h4 h5 t) x.way
def MsgF (base : Nat) (w : World) (cs : Array Value) (m : Mess) : Prop :=
  ∃ gr i h0 h1 h2 s h4 h5 g l0 l1 l2 t l4 l5 it c0 c1 c2 q c4 c5 ct sg tg mb, cs = msgV gr m.epoch m.frm m.kind m.prop.kind i h0 h1 h2 s h4 h5 g l0 l1 l2 t l4 l5 m.prop.at_ it m.com.has c0 c1 c2 q c4 c5 ct sg tg mb ∧ m.epoch < 18446744073709551616 ∧ m.kind < 256 ∧ (-9223372036854775808 ≤ m.frm ∧ m.frm ≤ 9223372036854775807) ∧ Fb base w gr.A gr.n m.group ∧
    PropF base w (propV m.prop.kind i h0 h1 h2 s h4 h5 g l0 l1 l2 t l4 l5 m.prop.at_) m.prop ∧ ComF base w (comV it m.com.has c0 c1 c2 q c4 c5 ct) m.com ∧ Fb base w sg.A sg.n m.sig ∧ Fb base w tg.A tg.n m.tag ∧ Fb base w mb.A mb.n m.member
def CtxF (base : Nat) (w : World) (cs : Array Value) (x : Ctx) : Prop := CtxC (fun h xs => Fb base w h.A h.n xs) cs x
def InfF (base : Nat) (w : World) (cs : Array Value) (x : Inf) : Prop := InfC (fun h xs => Fb base w h.A h.n xs) cs x
def GstF (base : Nat) (w : World) (cs : Array Value) (x : Gst) : Prop := GstC (fun h xs => Fb base w h.A h.n xs) cs x
def WelF (base : Nat) (w : World) (cs : Array Value) (x : Wel) : Prop := ∃ h0 h1, cs = twoV h0 h1 ∧ ElsF base (GstF base) 3 w h0.A h0.n x.guests ∧ Fb base w h1.A h1.n x.info
section
variable {base b : Nat} {w : World} {cs : Array Value} {S : List Nat}
theorem PackF.mono {x : Pack} (h : PackF base w cs x) (hb : b ≤ base) : PackF b w cs x := PackC.imp h fun _ _ k => k.mono hb
theorem PropF.mono {x : Prop20} (h : PropF base w cs x) (hb : b ≤ base) : PropF b w cs x := PropC.imp h fun _ _ k => k.mono hb
theorem CtxF.mono {x : Ctx} (h : CtxF base w cs x) (hb : b ≤ base) : CtxF b w cs x := CtxC.imp h fun _ _ k => k.mono hb
theorem InfF.mono {x : Inf} (h : InfF base w cs x) (hb : b ≤ base) : InfF b w cs x := InfC.imp h fun _ _ k => k.mono hb
theorem GstF.mono {x : Gst} (h : GstF base w cs x) (hb : b ≤ base) : GstF b w cs x := GstC.imp h fun _ _ k => k.mono hb
theorem BxdF.mono {x : Bxd} (h : BxdF base w cs x) (hb : b ≤ base) : BxdF b w cs x := by
  obtain ⟨h0, h1, e, k0, k1⟩ := h; exact ⟨h0, h1, e, k0.mono hb, k1.mono hb⟩
theorem StpF.mono {x : Stp} (h : StpF base w cs x) (hb : b ≤ base) : StpF b w cs x := by
  obtain ⟨h0, h1, e, k0, k1⟩ := h; exact ⟨h0, h1, e, k0.mono hb, k1.mono hb fun _ _ h => BxdF.mono h hb⟩
theorem ItemF.mono {x : Item20} (h : ItemF base w cs x) (hb : b ≤ base) : ItemF b w cs x := by
  obtain ⟨r, i, h0, h1, h2, s, h4, h5, g, l0, l1, l2, t, l4, l5, e, k0, k1⟩ := h; exact ⟨r, i, h0, h1, h2, s, h4, h5, g, l0, l1, l2, t, l4, l5, e, k0.mono hb, PropF.mono k1 hb⟩
theorem WayF.mono {x : Way20} (h : WayF base w cs x) (hb : b ≤ base) : WayF b w cs x := by
  obtain ⟨h0, h1, h2, s, h4, h5, t, e, k0, k1⟩ := h; exact ⟨h0, h1, h2, s, h4, h5, t, e, LeafF.mono k0 hb, k1.mono hb fun _ _ h => StpF.mono h hb⟩
theorem ComF.mono {x : Com20} (h : ComF base w cs x) (hb : b ≤ base) : ComF b w cs x := by
  obtain ⟨it, h0, h1, h2, s, h4, h5, t, e, k0, k1⟩ := h; exact ⟨it, h0, h1, h2, s, h4, h5, t, e, k0.mono hb fun _ _ h => ItemF.mono h hb, WayF.mono k1 hb⟩
theorem MsgF.mono {x : Mess} (h : MsgF base w cs x) (hb : b ≤ base) : MsgF b w cs x := by
  obtain ⟨gr, i, h0, h1, h2, s, h4, h5, g, l0, l1, l2, t, l4, l5, it, c0, c1, c2, q, c4, c5, ct, sg, tg, mb, e, a, a1, a2, d, f, j, k, l, o⟩ := h
  exact ⟨gr, i, h0, h1, h2, s, h4, h5, g, l0, l1, l2, t, l4, l5, it, c0, c1, c2, q, c4, c5, ct, sg, tg, mb, e, a, a1, a2, d.mono hb, PropF.mono f hb, ComF.mono j hb, k.mono hb, l.mono hb, o.mono hb⟩
theorem WelF.mono {x : Wel} (h : WelF base w cs x) (hb : b ≤ base) : WelF b w cs x := by
  obtain ⟨h0, h1, e, k0, k1⟩ := h; exact ⟨h0, h1, e, k0.mono hb fun _ _ h => GstF.mono h hb, k1.mono hb⟩
theorem PackF.at {x : Pack} (h : PackF base w cs x) : PackAt w cs x := PackC.imp h fun _ _ k => k.1
theorem PropF.at {x : Prop20} (h : PropF base w cs x) : PropAt w cs x := PropC.imp h fun _ _ k => k.1
theorem CtxF.at {x : Ctx} (h : CtxF base w cs x) : CtxAt w cs x := CtxC.at (CtxC.imp h fun _ _ k => k.1)
theorem InfF.at {x : Inf} (h : InfF base w cs x) : InfAt w cs x := InfC.imp h fun _ _ k => k.1
theorem GstF.at {x : Gst} (h : GstF base w cs x) : GstAt w cs x := GstC.imp h fun _ _ k => k.1
theorem BxdF.at {x : Bxd} (h : BxdF base w cs x) : BxdAt w cs x := by obtain ⟨h0, h1, e, k0, k1⟩ := h; exact ⟨h0, h1, e, k0.1, k1.1⟩
theorem ElsF.ats {α : Type} {R R' : World → Array Value → α → Prop} {sz n : Nat} {A : Option Addr} {zs : List α} (h : ElsF base R sz w A n zs) (hR : ∀ cs x, R w cs x → R' w cs x) : Els R' sz w A n zs := (h.mono (Nat.le_refl _) hR).1
theorem StpF.at {x : Stp} (h : StpF base w cs x) : StpAt w cs x := by obtain ⟨h0, h1, e, k0, k1⟩ := h; exact ⟨h0, h1, e, k0.1, k1.ats fun _ _ h => BxdF.at h⟩
theorem ItemF.at {x : Item20} (h : ItemF base w cs x) : ItemAt w cs x := by
  obtain ⟨r, i, h0, h1, h2, s, h4, h5, g, l0, l1, l2, t, l4, l5, e, k0, k1⟩ := h; exact ⟨r, i, h0, h1, h2, s, h4, h5, g, l0, l1, l2, t, l4, l5, e, k0.1, PropF.at k1⟩
theorem WayF.at {x : Way20} (h : WayF base w cs x) : WayAt w cs x := by
  obtain ⟨h0, h1, h2, s, h4, h5, t, e, k0, k1⟩ := h; exact ⟨h0, h1, h2, s, h4, h5, t, e, LeafF.at k0, k1.ats fun _ _ h => StpF.at h⟩
theorem ComF.at {x : Com20} (h : ComF base w cs x) : ComAt w cs x := by
  obtain ⟨it, h0, h1, h2, s, h4, h5, t, e, k0, k1⟩ := h; exact ⟨it, h0, h1, h2, s, h4, h5, t, e, k0.ats fun _ _ h => ItemF.at h, WayF.at k1⟩
theorem MsgF.at {x : Mess} (h : MsgF base w cs x) : MsgAt w cs x := by
  obtain ⟨gr, i, h0, h1, h2, s, h4, h5, g, l0, l1, l2, t, l4, l5, it, c0, c1, c2, q, c4, c5, ct, sg, tg, mb, e, a, a1, a2, d, f, j, k, l, o⟩ := h
  exact ⟨gr, i, h0, h1, h2, s, h4, h5, g, l0, l1, l2, t, l4, l5, it, c0, c1, c2, q, c4, c5, ct, sg, tg, mb, e, a, a1, a2, d.1, PropF.at f, ComF.at j, k.1, l.1, o.1⟩
theorem WelF.at {x : Wel} (h : WelF base w cs x) : WelAt w cs x := by
  obtain ⟨h0, h1, e, k0, k1⟩ := h; exact ⟨h0, h1, e, k0.ats fun _ _ h => GstF.at h, k1.1⟩
theorem PackF.kk {x : Pack} (h : PackF base w cs x) (hS : ∀ g ∈ S, g < base) : Kp w.heap.size S (fun w => PackF base w cs x) w := ⟨Nat.le_refl _, fun w2 hw => PackC.imp h fun _ _ k => (k.kk hS).2 w2 hw⟩
theorem PropF.kk {x : Prop20} (h : PropF base w cs x) (hS : ∀ g ∈ S, g < base) : Kp w.heap.size S (fun w => PropF base w cs x) w := ⟨Nat.le_refl _, fun w2 hw => PropC.imp h fun _ _ k => (k.kk hS).2 w2 hw⟩
theorem CtxF.kk {x : Ctx} (h : CtxF base w cs x) (hS : ∀ g ∈ S, g < base) : Kp w.heap.size S (fun w => CtxF base w cs x) w := ⟨Nat.le_refl _, fun w2 hw => CtxC.imp h fun _ _ k => (k.kk hS).2 w2 hw⟩
theorem GstF.kk {x : Gst} (h : GstF base w cs x) (hS : ∀ g ∈ S, g < base) : Kp w.heap.size S (fun w => GstF base w cs x) w := ⟨Nat.le_refl _, fun w2 hw => GstC.imp h fun _ _ k => (k.kk hS).2 w2 hw⟩
theorem InfF.kk {x : Inf} (h : InfF base w cs x) (hS : ∀ g ∈ S, g < base) : Kp w.heap.size S (fun w => InfF base w cs x) w := ⟨Nat.le_refl _, fun w2 hw => InfC.imp h fun _ _ k => (k.kk hS).2 w2 hw⟩
theorem BxdF.kk {x : Bxd} (h : BxdF base w cs x) (hS : ∀ g ∈ S, g < base) : Kp w.heap.size S (fun w => BxdF base w cs x) w := by
  obtain ⟨h0, h1, e, k0, k1⟩ := h; exact ⟨Nat.le_refl _, fun w2 hw => ⟨h0, h1, e, (k0.kk hS).2 w2 hw, (k1.kk hS).2 w2 hw⟩⟩
theorem StpF.kk {x : Stp} (h : StpF base w cs x) (hS : ∀ g ∈ S, g < base) : Kp w.heap.size S (fun w => StpF base w cs x) w := by
  obtain ⟨h0, h1, e, k0, k1⟩ := h; exact ⟨Nat.le_refl _, fun w2 hw => ⟨h0, h1, e, (k0.kk hS).2 w2 hw, (k1.kk (by omega) hS fun _ _ h => BxdF.kk h hS).2 w2 hw⟩⟩
theorem ItemF.kk {x : Item20} (h : ItemF base w cs x) (hS : ∀ g ∈ S, g < base) : Kp w.heap.size S (fun w => ItemF base w cs x) w := by
  obtain ⟨r, i, h0, h1, h2, s, h4, h5, g, l0, l1, l2, t, l4, l5, e, k0, k1⟩ := h; exact ⟨Nat.le_refl _, fun w2 hw => ⟨r, i, h0, h1, h2, s, h4, h5, g, l0, l1, l2, t, l4, l5, e, (k0.kk hS).2 w2 hw, (PropF.kk k1 hS).2 w2 hw⟩⟩
theorem WayF.kk {x : Way20} (h : WayF base w cs x) (hS : ∀ g ∈ S, g < base) : Kp w.heap.size S (fun w => WayF base w cs x) w := by
  obtain ⟨h0, h1, h2, s, h4, h5, t, e, k0, k1⟩ := h; exact ⟨Nat.le_refl _, fun w2 hw => ⟨h0, h1, h2, s, h4, h5, t, e, (LeafF.kk k0 hS).2 w2 hw, (k1.kk (by omega) hS fun _ _ h => StpF.kk h hS).2 w2 hw⟩⟩
theorem ComF.kk {x : Com20} (h : ComF base w cs x) (hS : ∀ g ∈ S, g < base) : Kp w.heap.size S (fun w => ComF base w cs x) w := by
  obtain ⟨it, h0, h1, h2, s, h4, h5, t, e, k0, k1⟩ := h; exact ⟨Nat.le_refl _, fun w2 hw => ⟨it, h0, h1, h2, s, h4, h5, t, e, (k0.kk (by omega) hS fun _ _ h => ItemF.kk h hS).2 w2 hw, (WayF.kk k1 hS).2 w2 hw⟩⟩
theorem MsgF.kk {x : Mess} (h : MsgF base w cs x) (hS : ∀ g ∈ S, g < base) : Kp w.heap.size S (fun w => MsgF base w cs x) w := by
  obtain ⟨gr, i, h0, h1, h2, s, h4, h5, g, l0, l1, l2, t, l4, l5, it, c0, c1, c2, q, c4, c5, ct, sg, tg, mb, e, a, a1, a2, d, f, j, k, l, o⟩ := h
  exact ⟨Nat.le_refl _, fun w2 hw => ⟨gr, i, h0, h1, h2, s, h4, h5, g, l0, l1, l2, t, l4, l5, it, c0, c1, c2, q, c4, c5, ct, sg, tg, mb, e, a, a1, a2, (d.kk hS).2 w2 hw, (PropF.kk f hS).2 w2 hw, (ComF.kk j hS).2 w2 hw, (k.kk hS).2 w2 hw, (l.kk hS).2 w2 hw, (o.kk hS).2 w2 hw⟩⟩
theorem WelF.kk {x : Wel} (h : WelF base w cs x) (hS : ∀ g ∈ S, g < base) : Kp w.heap.size S (fun w => WelF base w cs x) w := by
  obtain ⟨h0, h1, e, k0, k1⟩ := h; exact ⟨Nat.le_refl _, fun w2 hw => ⟨h0, h1, e, (k0.kk (by omega) hS fun _ _ h => GstF.kk h hS).2 w2 hw, (k1.kk hS).2 w2 hw⟩⟩
end
def zPackV : Array Value := packV nilH nilH nilH nilH 0 nilH nilH nilH
theorem PackF.zero (base : Nat) (w : World) : PackF base w zPackV Pack.zero := ⟨nilH, nilH, nilH, nilH, nilH, nilH, nilH, rfl, by decide, Fb.nil _ _ _, Fb.nil _ _ _, Fb.nil _ _ _, Fb.nil _ _ _, Fb.nil _ _ _, Fb.nil _ _ _, Fb.nil _ _ _⟩
theorem PropF.zero (base : Nat) (w : World) : PropF base w zPropV Prop20.zero := ⟨nilH, nilH, nilH, nilH, nilH, nilH, nilH, nilH, nilH, nilH, nilH, nilH, rfl, by decide, by decide, by decide, by decide, Fb.nil _ _ _, Fb.nil _ _ _, Fb.nil _ _ _, Fb.nil _ _ _, Fb.nil _ _ _, Fb.nil _ _ _, Fb.nil _ _ _, Fb.nil _ _ _, Fb.nil _ _ _, Fb.nil _ _ _, Fb.nil _ _ _, Fb.nil _ _ _⟩
section
variable {N gi gr : Nat} {S : List Nat} {s : St}
theorem ipack_any (w : World) (H0 : In N S w gi gr s) :
    Calls Tryz.prog 31 #[.pointer (some ⟨gi, 0, none⟩)] w fun e w' => ∃ cs, e = .returned (.agg cs) ∧ PackF w.heap.size w' cs (packX s).1 ∧ In N S w' gi gr (packX s).2 ∧ Chs [gr, gi] w w' := by
  have F := Chs.refl [gr, gi] w
  have hmi := H0.memi
  have hmr := H0.memr
  have hli := H0.lti
  have hlr := H0.ltr
  have H := H0
  obtain ⟨t, ht⟩ : ∃ t, t = justX 2 1 (justX 2 1 s) := ⟨_, rfl⟩
  obtain ⟨l, hl⟩ : ∃ l, l = leafI (vecX t).2 := ⟨_, rfl⟩
  refine vc_enterc1 (s := 8) 18 Tryz.func31 rfl rfl rfl Tryz.underlying27 rfl (by kernel_rfl) rfl ?_
  intro Q hret
  refine wc_seq ?_; intro K1 hK1
  refine wc_region ?_
  refine wl_ef (ef_alloc (Z := #[.slice none 0 0, .slice none 0 0, .slice none 0 0, .slice none 0 0, .int .u8 0, .slice none 0 0, .slice none 0 0, .slice none 0 0]) (by kernel_rfl)) rfl ?_
  rintro _ wB2 ⟨gB2, rfl, B2, hgB2, ex⟩
  have lB2 := B2.lt; have zB2 := ex.size
  replace F := F.grow ex hgB2
  replace H := H.grow ex hgB2
  refine wl_nil ?_
  refine wq_then_norm (hK1 ?_)
  refine wc_seq ?_; intro K2 hK2
  refine wc_region ?_
  refine wl_y (y_move rfl) rfl ?_
  refine wl_call Tryz.func71 rfl rfl rfl (ijust_any 2 1 2 1 rfl rfl _ (by omega) H) rfl ?_
  rintro e w1 ⟨rfl, H1, ex⟩
  refine ⟨_, rfl, ?_⟩
  replace F := F.chs ex
  replace B2 := B2.chs ex
  refine wl_nil ?_
  refine wq_then_norm (hK2 ?_)
  refine wc_seq ?_; intro K3 hK3
  refine wc_region ?_
  refine wl_y (y_move rfl) rfl ?_
  refine wl_call Tryz.func71 rfl rfl rfl (ijust_any 2 1 2 1 rfl rfl _ (by omega) H1) rfl ?_
  rintro e w2 ⟨rfl, H2, ex⟩
  refine ⟨_, rfl, ?_⟩
  replace F := F.chs ex
  replace B2 := B2.chs ex
  rw [← ht] at H2
  refine wl_nil ?_
  refine wq_then_norm (hK3 ?_)
  refine wc_seq ?_; intro K4 hK4
  refine wc_region ?_
  refine wl_ef (ef_alloc (Z := #[.slice none 0 0, .slice none 0 0, .slice none 0 0, .slice none 0 0, .int .u8 0, .slice none 0 0, .slice none 0 0, .slice none 0 0]) (by kernel_rfl)) rfl ?_
  rintro _ wB3 ⟨gB3, rfl, B3, hgB3, ex⟩
  have lB3 := B3.lt; have zB3 := ex.size
  have nB2_3 : gB2 < gB3 := Nat.lt_of_lt_of_le B2.lt hgB3
  replace F := F.grow ex hgB3
  replace B2 := B2.grow ex hgB3
  replace H2 := H2.grow ex hgB3
  refine wl_nil ?_
  refine wq_then_norm (hK4 ?_)
  refine wc_seq ?_; intro K5 hK5
  refine wc_region ?_
  refine wl_y (y_move rfl) rfl ?_
  have q2 := B2.lt; have q3 := B3.lt; have q4 := F.size
  refine wl_call Tryz.func74 rfl rfl rfl (ivec_any _ H2) rfl ?_
  rintro e w3 ⟨A1, n1, c1, rfl, hc1', V1, H3, ex⟩
  refine ⟨_, rfl, ?_⟩
  replace F := F.chs ex
  replace B2 := B2.chs ex
  replace B3 := B3.chs ex
  have J1 := V1.kk (S := [gB3, gB2, gr, gi]) (by simp; omega)
  refine wl_y (y_fieldAddr (o := 0) (s := 1) (off := 0) (o' := 0) rfl Tryz.underlying27 rfl (by kernel_rfl) rfl rfl) rfl ?_
  refine wl_ef (ef_storeB (i := 0) rfl rfl rfl (by kernel_rfl) B3 (Nat.le_of_ble_eq_true rfl)) rfl ?_
  rintro _ wS4_3 ⟨rfl, D, cg⟩
  have ex := Chs.one cg
  clear cg
  replace F := F.chs ex
  replace B2 := B2.chs ex
  replace H3 := H3.chs ex
  replace J1 := J1.chs ex
  replace B3 := D; clear D
  refine wl_nil ?_
  refine wq_then_norm (hK5 ?_)
  refine wc_seq ?_; intro K6 hK6
  refine wc_region ?_
  refine wl_y (y_move rfl) rfl ?_
  have q2 := B2.lt; have q3 := B3.lt; have q5 := F.size
  refine wl_call Tryz.func81 rfl rfl rfl (ileaf_any _ H3) rfl ?_
  rintro e w4 ⟨cs, rfl, HL, H4, ex⟩
  refine ⟨_, rfl, ?_⟩
  replace F := F.chs ex
  replace B2 := B2.chs ex
  replace B3 := B3.chs ex
  replace J1 := J1.chs ex
  rw [← hl] at HL H4; have KL := HL.kk (S := [gB3, gB2, gr, gi]) (by simp; omega); obtain ⟨h0, h1, h2, h4, h5, rfl, hs, b0, b1, b2, b4, b5⟩ := HL
  refine wl_y (y_fieldAddr (o := 1) (s := 6) (off := 0) (o' := 1) rfl Tryz.underlying27 rfl (by kernel_rfl) rfl rfl) rfl ?_
  refine wl_ef (ef_storeP (o := 1) rfl rfl (by kernel_rfl) B3 (Nat.le_of_ble_eq_true rfl) (all_ones rfl)) rfl ?_
  rintro _ wS5_3 ⟨rfl, D, cg⟩
  have ex := Chs.one cg
  clear cg
  replace F := F.chs ex
  replace B2 := B2.chs ex
  replace J1 := J1.chs ex
  replace H4 := H4.chs ex
  replace KL := KL.chs ex
  replace B3 := D; clear D
  refine wl_nil ?_
  refine wq_then_norm (hK6 ?_)
  refine wc_seq ?_; intro K7 hK7
  refine wc_region ?_
  refine wl_y (y_move rfl) rfl ?_
  have q2 := B2.lt; have q3 := B3.lt; have q6 := F.size
  refine wl_call Tryz.func74 rfl rfl rfl (ivec_any _ H4) rfl ?_
  rintro e w5 ⟨A2, n2, c2, rfl, hc2', V2, H5, ex⟩
  refine ⟨_, rfl, ?_⟩
  replace F := F.chs ex
  replace B2 := B2.chs ex
  replace B3 := B3.chs ex
  replace J1 := J1.chs ex
  replace KL := KL.chs ex
  have J2 := V2.kk (S := [gB3, gB2, gr, gi]) (by simp; omega)
  refine wl_y (y_fieldAddr (o := 7) (s := 1) (off := 0) (o' := 7) rfl Tryz.underlying27 rfl (by kernel_rfl) rfl rfl) rfl ?_
  refine wl_ef (ef_storeB (i := 7) rfl rfl rfl (by kernel_rfl) B3 (Nat.le_of_ble_eq_true rfl)) rfl ?_
  rintro _ wS6_3 ⟨rfl, D, cg⟩
  have ex := Chs.one cg
  clear cg
  replace F := F.chs ex
  replace B2 := B2.chs ex
  replace J1 := J1.chs ex
  replace KL := KL.chs ex
  replace H5 := H5.chs ex
  replace J2 := J2.chs ex
  replace B3 := D; clear D
  refine wl_nil ?_
  refine wq_then_norm (hK7 ?_)
  refine wc_seq ?_; intro K8 hK8
  refine wc_region ?_
  refine wl_y (y_loadx (o := 0) (s := 8) rfl Tryz.underlying27 rfl (by kernel_rfl) B3 rfl) rfl ?_
  refine wl_ef (ef_storeP (o := 0) rfl rfl (by kernel_rfl) B2 (Nat.le_of_ble_eq_true rfl) (all_ones rfl)) rfl ?_
  rintro _ wS7_1 ⟨rfl, D, cg⟩
  have ex := Chs.one cg
  clear cg
  replace F := F.chs ex
  replace B3 := B3.chs ex
  replace J1 := J1.chs ex
  replace KL := KL.chs ex
  replace H5 := H5.chs ex
  replace J2 := J2.chs ex
  replace B2 := D; clear D
  replace B2 := B2.congr (cs' := packV ⟨A1, n1, c1⟩ h0 h1 h2 l.1.src h4 h5 ⟨A2, n2, c2⟩) rfl
  refine wl_nil ?_
  refine wq_then_norm (hK8 ?_)
  refine wc_ret ?_
  refine hret rfl B2 rfl ?_
  have e : packX s = (⟨(vecX t).1, l.1, (vecX l.2).1⟩, (vecX l.2).2) := by rw [hl, ht]; rfl
  rw [e]
  refine ⟨_, rfl, ?_, H5.mono (fun k hk => by simp [hk]) hmi hmr, (F.drop (by omega)).drop (by omega)⟩
  obtain ⟨i0, i1, i2, i4, i5, e', hs', b0, b1, b2, b4, b5⟩ := KL.out
  obtain ⟨rfl, rfl, rfl, rfl, rfl⟩ := leafV_inj e'
  exact ⟨_, _, _, _, _, _, _, rfl, hs', J1.out.mono (by omega), b0.mono (by omega), b1.mono (by omega), b2.mono (by omega), b4.mono (by omega), b5.mono (by omega), J2.out.mono (by omega)⟩
theorem packV_inj {i h0 h1 h2 h4 h5 g i' i0 i1 i2 i4 i5 g' : Hd} {s t : Nat} (e : packV i h0 h1 h2 s h4 h5 g = packV i' i0 i1 i2 t i4 i5 g') : i = i' ∧ h0 = i0 ∧ h1 = i1 ∧ h2 = i2 ∧ h4 = i4 ∧ h5 = i5 ∧ g = g' := by
  have e' := congrArg Array.toList e
  simp only [packV, List.cons.injEq, and_true] at e'
  obtain ⟨a, a0, a1, a2, _, a4, a5, a6⟩ := e'
  exact ⟨hd_eq a, hd_eq a0, hd_eq a1, hd_eq a2, hd_eq a4, hd_eq a5, hd_eq a6⟩
theorem PropF.mk {base : Nat} {w : World} {p : Prop20} {i h0 h1 h2 h4 h5 g l0 l1 l2 l4 l5 : Hd} (h : PackF base w (packV i h0 h1 h2 p.pack.leaf.src h4 h5 g) p.pack) (h' : LeafF base w (leafV l0 l1 l2 p.leaf.src l4 l5) p.leaf) (hk : p.kind < 256) (hz : -9223372036854775808 ≤ p.at_ ∧ p.at_ ≤ 9223372036854775807) :
    PropF base w (propV p.kind i h0 h1 h2 p.pack.leaf.src h4 h5 g l0 l1 l2 p.leaf.src l4 l5 p.at_) p := by
  obtain ⟨i', i0, i1, i2, i4, i5, g', e, hs, b, b0, b1, b2, b4, b5, b6⟩ := h
  obtain ⟨rfl, rfl, rfl, rfl, rfl, rfl, rfl⟩ := packV_inj e
  obtain ⟨j0, j1, j2, j4, j5, e', ht, d0, d1, d2, d4, d5⟩ := h'
  obtain ⟨rfl, rfl, rfl, rfl, rfl⟩ := leafV_inj e'
  exact ⟨_, _, _, _, _, _, _, _, _, _, _, _, rfl, hk, hs, ht, hz, b, b0, b1, b2, b4, b5, b6, d0, d1, d2, d4, d5⟩
theorem iprop_any (w : World) (H0 : In N S w gi gr s) :
    Calls Tryz.prog 35 #[.pointer (some ⟨gi, 0, none⟩)] w fun e w' => ∃ cs, e = .returned (.agg cs) ∧ PropF w.heap.size w' cs (propX s).1 ∧ In N S w' gi gr (propX s).2 ∧ Chs [gr, gi] w w' := by
  have F := Chs.refl [gr, gi] w
  have hmi := H0.memi
  have hmr := H0.memr
  have hli := H0.lti
  have hlr := H0.ltr
  have H := H0
  obtain ⟨k, hk⟩ : ∃ k, k = (numX 1 s).1 := ⟨_, rfl⟩
  obtain ⟨t, ht⟩ : ∃ t, t = (numX 1 s).2 := ⟨_, rfl⟩
  have hX : propX s = if k = 1 then (⟨1, (packX t).1, Leaf.zero, 0⟩, (packX t).2)
    else if k = 2 then (⟨2, Pack.zero, (leafI t).1, 0⟩, (leafI t).2)
    else if k = 3 then (⟨3, Pack.zero, Leaf.zero, ((numX 4 t).1 : Int)⟩, (numX 4 t).2)
    else (⟨k, Pack.zero, Leaf.zero, 0⟩, badX t) := by rw [hk, ht]; rfl
  have hk8 : k < 256 := by rw [hk]; exact numX_lt 1 _
  have hn4 := numX_lt 4 t
  obtain ⟨n4, hn⟩ : ∃ n, n = (numX 4 t).1 := ⟨_, rfl⟩
  rw [← hn] at hX hn4
  refine vc_enterc1 (s := 16) 29 Tryz.func35 rfl rfl rfl Tryz.underlying32 rfl (by kernel_rfl) rfl ?_
  intro Q hret
  refine wc_seq ?_; intro K1 hK1
  refine wc_region ?_
  refine wl_ef (ef_alloc (Z := #[.int .u8 0, .slice none 0 0, .slice none 0 0, .slice none 0 0, .slice none 0 0, .int .u8 0, .slice none 0 0, .slice none 0 0, .slice none 0 0, .slice none 0 0, .slice none 0 0, .slice none 0 0, .int .u8 0, .slice none 0 0, .slice none 0 0, .int .i64 0]) (by kernel_rfl)) rfl ?_
  rintro _ wB2 ⟨gB2, rfl, B2, hgB2, ex⟩
  have lB2 := B2.lt; have zB2 := ex.size
  replace F := F.grow ex hgB2
  replace H := H.grow ex hgB2
  refine wl_nil ?_
  refine wq_then_norm (hK1 ?_)
  refine wc_seq ?_; intro K2 hK2
  refine wc_region ?_
  refine wl_y (y_move rfl) rfl ?_
  refine wl_call Tryz.func83 rfl rfl rfl (inum_any 1 1 rfl _ (by omega) H) rfl ?_
  rintro e w1 ⟨rfl, H1, ex⟩
  refine ⟨_, rfl, ?_⟩
  rw [← ht] at H1; rw [← hk]
  replace F := F.chs ex
  replace B2 := B2.chs ex
  refine wl_y (y_conv rfl Tryz.underlying53 Tryz.underlying5 (show IntKind.u8.wrap ((k : Nat) : Int) = ((k : Nat) : Int) from IntWalk.u8_in _ ⟨by omega, by omega⟩)) rfl ?_
  refine wl_y (y_build rfl (cells := propV k nilH nilH nilH nilH 0 nilH nilH nilH nilH nilH nilH 0 nilH nilH 0) (by kernel_rfl)) rfl ?_
  refine wl_ef (ef_alloc (Z := #[.int .u8 0, .slice none 0 0, .slice none 0 0, .slice none 0 0, .slice none 0 0, .int .u8 0, .slice none 0 0, .slice none 0 0, .slice none 0 0, .slice none 0 0, .slice none 0 0, .slice none 0 0, .int .u8 0, .slice none 0 0, .slice none 0 0, .int .i64 0]) (by kernel_rfl)) rfl ?_
  rintro _ wB3 ⟨gB3, rfl, B3, hgB3, ex⟩
  have lB3 := B3.lt; have zB3 := ex.size
  have nB2_3 : gB2 < gB3 := Nat.lt_of_lt_of_le B2.lt hgB3
  replace F := F.grow ex hgB3
  replace B2 := B2.grow ex hgB3
  replace H1 := H1.grow ex hgB3
  refine wl_ef (ef_storeP (o := 0) rfl rfl (by kernel_rfl) B3 (Nat.le_of_ble_eq_true rfl) (all_ones rfl)) rfl ?_
  rintro _ wS1_5 ⟨rfl, D, cg⟩
  have ex := Chs.one cg
  clear cg
  replace F := F.chs ex
  replace B2 := B2.chs ex
  replace H1 := H1.chs ex
  replace B3 := D; clear D
  replace B3 := B3.congr (cs' := propV k nilH nilH nilH nilH 0 nilH nilH nilH nilH nilH nilH 0 nilH nilH 0) rfl
  refine wl_nil ?_
  refine wq_then_norm (hK2 ?_)
  refine wc_seq ?_; intro K3 hK3
  refine wc_seq ?_; intro K4 hK4
  refine wc_region ?_
  refine wl_y (y_fieldAddr (o := 0) (s := 1) (off := 0) (o' := 0) rfl Tryz.underlying32 rfl (by kernel_rfl) rfl rfl) rfl ?_
  refine wl_y (y_load1 rfl Tryz.underlying5 rfl (B3.get (i := 0) rfl)) rfl ?_
  refine wl_nil ?_
  refine wq_then_norm (hK4 ?_)
  refine wc_block ?_
  refine wc_seq ?_; intro K5 hK5
  refine wc_region ?_
  refine wl_y (y_eql rfl rfl) rfl ?_
  refine wl_y (y_assign rfl) rfl ?_
  refine wl_nil ?_
  refine wq_then_norm (hK5 ?_)
  refine wc_dec rfl (fun hc1 => ?_) (fun hc1 => ?_)
  · skip
    refine wc_region ?_
    refine wl_y (y_move rfl) rfl ?_
    have q2 := B2.lt; have q3 := B3.lt; have q4 := F.size
    refine wl_call Tryz.func31 rfl rfl rfl (ipack_any _ H1) rfl ?_
    rintro e w2 ⟨cs, rfl, HP, H2, ex⟩
    refine ⟨_, rfl, ?_⟩
    replace F := F.chs ex
    replace B2 := B2.chs ex
    replace B3 := B3.chs ex
    have KP := HP.kk (S := [gB3, gB2, gr, gi]) (by simp; omega)
    obtain ⟨i, h0, h1, h2, h4, h5, g, rfl, _⟩ := HP
    refine wl_y (y_fieldAddr (o := 1) (s := 8) (off := 0) (o' := 1) rfl Tryz.underlying32 rfl (by kernel_rfl) rfl rfl) rfl ?_
    refine wl_ef (ef_storeP (o := 1) rfl rfl (by kernel_rfl) B3 (Nat.le_of_ble_eq_true rfl) (all_ones rfl)) rfl ?_
    rintro _ wS5_3 ⟨rfl, D, cg⟩
    have ex := Chs.one cg
    clear cg
    replace F := F.chs ex
    replace B2 := B2.chs ex
    replace H2 := H2.chs ex
    replace KP := KP.chs ex
    replace B3 := D; clear D
    refine wl_nil ?_
    refine wq_blk_norm ?_
    refine wq_then_norm (hK3 ?_)
    refine wc_seq ?_; intro K6 hK6
    obtain rfl : k = 1 := by omega
    refine wc_region ?_
    refine wl_y (y_loadx (o := 0) (s := 16) rfl Tryz.underlying32 rfl (by kernel_rfl) B3 rfl) rfl ?_
    refine wl_ef (ef_storeP (o := 0) rfl rfl (by kernel_rfl) B2 (Nat.le_of_ble_eq_true rfl) (all_ones rfl)) rfl ?_
    rintro _ wS10_1 ⟨rfl, D, cg⟩
    have ex := Chs.one cg
    clear cg
    replace F := F.chs ex
    replace B3 := B3.chs ex
    replace H2 := H2.chs ex
    replace KP := KP.chs ex
    replace B2 := D; clear D
    replace B2 := B2.congr (cs' := propV 1 i h0 h1 h2 (packX t).1.leaf.src h4 h5 g nilH nilH nilH 0 nilH nilH 0) rfl
    refine wl_nil ?_
    refine wq_then_norm (hK6 ?_)
    refine wc_ret ?_
    refine hret rfl B2 rfl ?_
    rw [hX, if_pos rfl]; exact ⟨_, rfl, PropF.mk (p := ⟨1, (packX t).1, Leaf.zero, 0⟩) (KP.out.mono (by omega)) (LeafF.zero _ _) (by show 1 < 256; omega) (by show (-9223372036854775808 : Int) ≤ 0 ∧ (0 : Int) ≤ 9223372036854775807; omega), H2.mono (fun k hk => by simp [hk]) hmi hmr, (F.drop (by omega)).drop (by omega)⟩
  · skip
    refine wc_seq ?_; intro K7 hK7
    refine wc_region ?_
    refine wl_y (y_eql rfl rfl) rfl ?_
    refine wl_y (y_assign rfl) rfl ?_
    refine wl_nil ?_
    refine wq_then_norm (hK7 ?_)
    refine wc_dec rfl (fun hc2 => ?_) (fun hc2 => ?_)
    · skip
      refine wc_region ?_
      refine wl_y (y_move rfl) rfl ?_
      have q2 := B2.lt; have q3 := B3.lt; have q4 := F.size
      refine wl_call Tryz.func81 rfl rfl rfl (ileaf_any _ H1) rfl ?_
      rintro e w2 ⟨cs, rfl, HL, H2, ex⟩
      refine ⟨_, rfl, ?_⟩
      replace F := F.chs ex
      replace B2 := B2.chs ex
      replace B3 := B3.chs ex
      have KL := HL.kk (S := [gB3, gB2, gr, gi]) (by simp; omega)
      obtain ⟨h0, h1, h2, h4, h5, rfl, _⟩ := HL
      refine wl_y (y_fieldAddr (o := 9) (s := 6) (off := 0) (o' := 9) rfl Tryz.underlying32 rfl (by kernel_rfl) rfl rfl) rfl ?_
      refine wl_ef (ef_storeP (o := 9) rfl rfl (by kernel_rfl) B3 (Nat.le_of_ble_eq_true rfl) (all_ones rfl)) rfl ?_
      rintro _ wS7_3 ⟨rfl, D, cg⟩
      have ex := Chs.one cg
      clear cg
      replace F := F.chs ex
      replace B2 := B2.chs ex
      replace H2 := H2.chs ex
      replace KL := KL.chs ex
      replace B3 := D; clear D
      refine wl_nil ?_
      refine wq_blk_norm ?_
      refine wq_then_norm (hK3 ?_)
      refine wc_seq ?_; intro K8 hK8
      obtain rfl : k = 2 := by omega
      refine wc_region ?_
      refine wl_y (y_loadx (o := 0) (s := 16) rfl Tryz.underlying32 rfl (by kernel_rfl) B3 rfl) rfl ?_
      refine wl_ef (ef_storeP (o := 0) rfl rfl (by kernel_rfl) B2 (Nat.le_of_ble_eq_true rfl) (all_ones rfl)) rfl ?_
      rintro _ wS10_1 ⟨rfl, D, cg⟩
      have ex := Chs.one cg
      clear cg
      replace F := F.chs ex
      replace B3 := B3.chs ex
      replace H2 := H2.chs ex
      replace KL := KL.chs ex
      replace B2 := D; clear D
      replace B2 := B2.congr (cs' := propV 2 nilH nilH nilH nilH 0 nilH nilH nilH h0 h1 h2 (leafI t).1.src h4 h5 0) rfl
      refine wl_nil ?_
      refine wq_then_norm (hK8 ?_)
      refine wc_ret ?_
      refine hret rfl B2 rfl ?_
      rw [hX, if_neg (by omega), if_pos rfl]; exact ⟨_, rfl, PropF.mk (p := ⟨2, Pack.zero, (leafI t).1, 0⟩) (PackF.zero _ _) (LeafF.mono KL.out (by omega)) (by show 2 < 256; omega) (by show (-9223372036854775808 : Int) ≤ 0 ∧ (0 : Int) ≤ 9223372036854775807; omega), H2.mono (fun k hk => by simp [hk]) hmi hmr, (F.drop (by omega)).drop (by omega)⟩
    · skip
      refine wc_seq ?_; intro K9 hK9
      refine wc_region ?_
      refine wl_y (y_eql rfl rfl) rfl ?_
      refine wl_y (y_assign rfl) rfl ?_
      refine wl_nil ?_
      refine wq_then_norm (hK9 ?_)
      refine wc_dec rfl (fun hc3 => ?_) (fun hc3 => ?_)
      · skip
        refine wc_region ?_
        refine wl_y (y_move rfl) rfl ?_
        refine wl_call Tryz.func83 rfl rfl rfl (inum_any 4 4 rfl _ (by omega) H1) rfl ?_
        rintro e w2 ⟨rfl, H2, ex⟩
        refine ⟨_, rfl, ?_⟩
        rw [← hn]
        replace F := F.chs ex
        replace B2 := B2.chs ex
        replace B3 := B3.chs ex
        refine wl_y (y_conv rfl Tryz.underlying53 Tryz.underlying3 (i64_ok (by omega) (by omega))) rfl ?_
        refine wl_y (y_fieldAddr (o := 15) (s := 1) (off := 0) (o' := 15) rfl Tryz.underlying32 rfl (by kernel_rfl) rfl rfl) rfl ?_
        refine wl_ef (ef_storeB (i := 15) rfl rfl rfl (by kernel_rfl) B3 (Nat.le_of_ble_eq_true rfl)) rfl ?_
        rintro _ wS9_4 ⟨rfl, D, cg⟩
        have ex := Chs.one cg
        clear cg
        replace F := F.chs ex
        replace B2 := B2.chs ex
        replace H2 := H2.chs ex
        replace B3 := D; clear D
        refine wl_nil ?_
        refine wq_blk_norm ?_
        refine wq_then_norm (hK3 ?_)
        refine wc_seq ?_; intro K10 hK10
        obtain rfl : k = 3 := by omega
        refine wc_region ?_
        refine wl_y (y_loadx (o := 0) (s := 16) rfl Tryz.underlying32 rfl (by kernel_rfl) B3 rfl) rfl ?_
        refine wl_ef (ef_storeP (o := 0) rfl rfl (by kernel_rfl) B2 (Nat.le_of_ble_eq_true rfl) (all_ones rfl)) rfl ?_
        rintro _ wS10_1 ⟨rfl, D, cg⟩
        have ex := Chs.one cg
        clear cg
        replace F := F.chs ex
        replace B3 := B3.chs ex
        replace H2 := H2.chs ex
        replace B2 := D; clear D
        replace B2 := B2.congr (cs' := propV 3 nilH nilH nilH nilH 0 nilH nilH nilH nilH nilH nilH 0 nilH nilH (n4 : Int)) rfl
        refine wl_nil ?_
        refine wq_then_norm (hK10 ?_)
        refine wc_ret ?_
        refine hret rfl B2 rfl ?_
        rw [hX, if_neg (by omega), if_neg (by omega), if_pos rfl]; exact ⟨_, rfl, PropF.mk (p := ⟨3, Pack.zero, Leaf.zero, (n4 : Int)⟩) (PackF.zero _ _) (LeafF.zero _ _) (by show 3 < 256; omega) (by show (-9223372036854775808 : Int) ≤ (n4 : Int) ∧ (n4 : Int) ≤ 9223372036854775807; omega), H2.mono (fun k hk => by simp [hk]) hmi hmr, (F.drop (by omega)).drop (by omega)⟩
      · skip
        refine wc_region ?_
        refine wl_y (y_move rfl) rfl ?_
        refine wl_call Tryz.func79 rfl rfl rfl (note_in 3 3 rfl (by omega) _ H1) rfl ?_
        rintro e w2 ⟨rfl, H2, ex⟩
        refine ⟨_, rfl, ?_⟩
        rw [noteX_bad] at H2
        replace F := F.chs ex
        replace B2 := B2.chs ex
        replace B3 := B3.chs ex
        refine wl_nil ?_
        refine wq_blk_norm ?_
        refine wq_then_norm (hK3 ?_)
        refine wc_seq ?_; intro K11 hK11
        refine wc_region ?_
        refine wl_y (y_loadx (o := 0) (s := 16) rfl Tryz.underlying32 rfl (by kernel_rfl) B3 rfl) rfl ?_
        refine wl_ef (ef_storeP (o := 0) rfl rfl (by kernel_rfl) B2 (Nat.le_of_ble_eq_true rfl) (all_ones rfl)) rfl ?_
        rintro _ wS10_1 ⟨rfl, D, cg⟩
        have ex := Chs.one cg
        clear cg
        replace F := F.chs ex
        replace B3 := B3.chs ex
        replace H2 := H2.chs ex
        replace B2 := D; clear D
        replace B2 := B2.congr (cs' := propV k nilH nilH nilH nilH 0 nilH nilH nilH nilH nilH nilH 0 nilH nilH 0) rfl
        refine wl_nil ?_
        refine wq_then_norm (hK11 ?_)
        refine wc_ret ?_
        refine hret rfl B2 rfl ?_
        rw [hX, if_neg (by omega), if_neg (by omega), if_neg (by omega)]; exact ⟨_, rfl, PropF.mk (p := ⟨k, Pack.zero, Leaf.zero, 0⟩) (PackF.zero _ _) (LeafF.zero _ _) hk8 (by show (-9223372036854775808 : Int) ≤ 0 ∧ (0 : Int) ≤ 9223372036854775807; omega), H2.mono (fun k hk => by simp [hk]) hmi hmr, (F.drop (by omega)).drop (by omega)⟩
theorem iitem_any (w : World) (H0 : In N S w gi gr s) :
    Calls Tryz.prog 88 #[.pointer (some ⟨gi, 0, none⟩)] w fun e w' => ∃ cs, e = .returned (.agg cs) ∧ ItemF w.heap.size w' cs (itemX s).1 ∧ In N S w' gi gr (itemX s).2 ∧ Chs [gr, gi] w w' := by
  have F := Chs.refl [gr, gi] w
  have hmi := H0.memi
  have hmr := H0.memr
  have hli := H0.lti
  have hlr := H0.ltr
  have H := H0
  obtain ⟨k, hk⟩ : ∃ k, k = (numX 1 s).1 := ⟨_, rfl⟩
  obtain ⟨t, ht⟩ : ∃ t, t = (numX 1 s).2 := ⟨_, rfl⟩
  have hX : itemX s = if k = 1 then (⟨[], (propX t).1⟩, (propX t).2)
    else if k = 2 then (⟨(vecX t).1, Prop20.zero⟩, (vecX t).2)
    else (⟨[], Prop20.zero⟩, badX t) := by rw [hk, ht]; rfl
  refine vc_enterc1 (s := 17) 19 Tryz.func88 rfl rfl rfl Tryz.underlying95 rfl (by kernel_rfl) rfl ?_
  intro Q hret
  refine wc_seq ?_; intro K1 hK1
  refine wc_region ?_
  refine wl_ef (ef_alloc (Z := #[.slice none 0 0, .int .u8 0, .slice none 0 0, .slice none 0 0, .slice none 0 0, .slice none 0 0, .int .u8 0, .slice none 0 0, .slice none 0 0, .slice none 0 0, .slice none 0 0, .slice none 0 0, .slice none 0 0, .int .u8 0, .slice none 0 0, .slice none 0 0, .int .i64 0]) (by kernel_rfl)) rfl ?_
  rintro _ wB2 ⟨gB2, rfl, B2, hgB2, ex⟩
  have lB2 := B2.lt; have zB2 := ex.size
  replace F := F.grow ex hgB2
  replace H := H.grow ex hgB2
  refine wl_nil ?_
  refine wq_then_norm (hK1 ?_)
  refine wc_seq ?_; intro K2 hK2
  refine wc_region ?_
  refine wl_ef (ef_alloc (Z := #[.slice none 0 0, .int .u8 0, .slice none 0 0, .slice none 0 0, .slice none 0 0, .slice none 0 0, .int .u8 0, .slice none 0 0, .slice none 0 0, .slice none 0 0, .slice none 0 0, .slice none 0 0, .slice none 0 0, .int .u8 0, .slice none 0 0, .slice none 0 0, .int .i64 0]) (by kernel_rfl)) rfl ?_
  rintro _ wB3 ⟨gB3, rfl, B3, hgB3, ex⟩
  have lB3 := B3.lt; have zB3 := ex.size
  have nB2_3 : gB2 < gB3 := Nat.lt_of_lt_of_le B2.lt hgB3
  replace F := F.grow ex hgB3
  replace H := H.grow ex hgB3
  replace B2 := B2.grow ex hgB3
  refine wl_nil ?_
  refine wq_then_norm (hK2 ?_)
  refine wc_seq ?_; intro K3 hK3
  refine wc_seq ?_; intro K4 hK4
  refine wc_region ?_
  refine wl_y (y_move rfl) rfl ?_
  refine wl_call Tryz.func83 rfl rfl rfl (inum_any 1 1 rfl _ (by omega) H) rfl ?_
  rintro e w1 ⟨rfl, H1, ex⟩
  refine ⟨_, rfl, ?_⟩
  rw [← ht] at H1; rw [← hk]
  replace F := F.chs ex
  replace B2 := B2.chs ex
  replace B3 := B3.chs ex
  refine wl_nil ?_
  refine wq_then_norm (hK4 ?_)
  refine wc_block ?_
  refine wc_seq ?_; intro K5 hK5
  refine wc_region ?_
  refine wl_y (y_eql rfl rfl) rfl ?_
  refine wl_y (y_assign rfl) rfl ?_
  refine wl_nil ?_
  refine wq_then_norm (hK5 ?_)
  refine wc_dec rfl (fun hc1 => ?_) (fun hc1 => ?_)
  · skip
    refine wc_region ?_
    refine wl_y (y_move rfl) rfl ?_
    have q2 := B2.lt; have q3 := B3.lt; have q4 := F.size
    refine wl_call Tryz.func35 rfl rfl rfl (iprop_any _ H1) rfl ?_
    rintro e w2 ⟨cs, rfl, HP, H2, ex⟩
    refine ⟨_, rfl, ?_⟩
    replace F := F.chs ex
    replace B2 := B2.chs ex
    replace B3 := B3.chs ex
    have KP := HP.kk (S := [gB3, gB2, gr, gi]) (by simp; omega)
    obtain ⟨i, h0, h1, h2, h4, h5, g, l0, l1, l2, l4, l5, rfl, _⟩ := HP
    refine wl_y (y_fieldAddr (o := 1) (s := 16) (off := 0) (o' := 1) rfl Tryz.underlying95 rfl (by kernel_rfl) rfl rfl) rfl ?_
    refine wl_ef (ef_storeP (o := 1) rfl rfl (by kernel_rfl) B3 (Nat.le_of_ble_eq_true rfl) (all_ones rfl)) rfl ?_
    rintro _ wS5_3 ⟨rfl, D, cg⟩
    have ex := Chs.one cg
    clear cg
    replace F := F.chs ex
    replace B2 := B2.chs ex
    replace H2 := H2.chs ex
    replace KP := KP.chs ex
    replace B3 := D; clear D
    refine wl_nil ?_
    refine wq_blk_norm ?_
    refine wq_then_norm (hK3 ?_)
    refine wc_seq ?_; intro K6 hK6
    refine wc_region ?_
    refine wl_y (y_loadx (o := 0) (s := 17) rfl Tryz.underlying95 rfl (by kernel_rfl) B3 rfl) rfl ?_
    refine wl_ef (ef_storeP (o := 0) rfl rfl (by kernel_rfl) B2 (Nat.le_of_ble_eq_true rfl) (all_ones rfl)) rfl ?_
    rintro _ wS8_1 ⟨rfl, D, cg⟩
    have ex := Chs.one cg
    clear cg
    replace F := F.chs ex
    replace B3 := B3.chs ex
    replace H2 := H2.chs ex
    replace KP := KP.chs ex
    replace B2 := D; clear D
    replace B2 := B2.congr (cs' := itmV nilH (propX t).1.kind i h0 h1 h2 (propX t).1.pack.leaf.src h4 h5 g l0 l1 l2 (propX t).1.leaf.src l4 l5 (propX t).1.at_) rfl
    refine wl_nil ?_
    refine wq_then_norm (hK6 ?_)
    refine wc_ret ?_
    refine hret rfl B2 rfl ?_
    rw [hX, if_pos (by omega)]; exact ⟨_, rfl, ⟨_, _, _, _, _, _, _, _, _, _, _, _, _, _, _, rfl, Fb.nil _ _ _, KP.out.mono (by omega)⟩, H2.mono (fun k hk => by simp [hk]) hmi hmr, (F.drop (by omega)).drop (by omega)⟩
  · skip
    refine wc_seq ?_; intro K7 hK7
    refine wc_region ?_
    refine wl_y (y_eql rfl rfl) rfl ?_
    refine wl_y (y_assign rfl) rfl ?_
    refine wl_nil ?_
    refine wq_then_norm (hK7 ?_)
    refine wc_dec rfl (fun hc2 => ?_) (fun hc2 => ?_)
    · skip
      refine wc_region ?_
      refine wl_y (y_move rfl) rfl ?_
      have q2 := B2.lt; have q3 := B3.lt; have q4 := F.size
      refine wl_call Tryz.func74 rfl rfl rfl (ivec_any _ H1) rfl ?_
      rintro e w2 ⟨A1, n1, c1, rfl, hc1', V1, H2, ex⟩
      refine ⟨_, rfl, ?_⟩
      replace F := F.chs ex
      replace B2 := B2.chs ex
      replace B3 := B3.chs ex
      have J1 := V1.kk (S := [gB3, gB2, gr, gi]) (by simp; omega)
      refine wl_y (y_fieldAddr (o := 0) (s := 1) (off := 0) (o' := 0) rfl Tryz.underlying95 rfl (by kernel_rfl) rfl rfl) rfl ?_
      refine wl_ef (ef_storeB (i := 0) rfl rfl rfl (by kernel_rfl) B3 (Nat.le_of_ble_eq_true rfl)) rfl ?_
      rintro _ wS7_3 ⟨rfl, D, cg⟩
      have ex := Chs.one cg
      clear cg
      replace F := F.chs ex
      replace B2 := B2.chs ex
      replace H2 := H2.chs ex
      replace J1 := J1.chs ex
      replace B3 := D; clear D
      refine wl_nil ?_
      refine wq_blk_norm ?_
      refine wq_then_norm (hK3 ?_)
      refine wc_seq ?_; intro K8 hK8
      refine wc_region ?_
      refine wl_y (y_loadx (o := 0) (s := 17) rfl Tryz.underlying95 rfl (by kernel_rfl) B3 rfl) rfl ?_
      refine wl_ef (ef_storeP (o := 0) rfl rfl (by kernel_rfl) B2 (Nat.le_of_ble_eq_true rfl) (all_ones rfl)) rfl ?_
      rintro _ wS8_1 ⟨rfl, D, cg⟩
      have ex := Chs.one cg
      clear cg
      replace F := F.chs ex
      replace B3 := B3.chs ex
      replace H2 := H2.chs ex
      replace J1 := J1.chs ex
      replace B2 := D; clear D
      replace B2 := B2.congr (cs' := itmV ⟨A1, n1, c1⟩ 0 nilH nilH nilH nilH 0 nilH nilH nilH nilH nilH nilH 0 nilH nilH 0) rfl
      refine wl_nil ?_
      refine wq_then_norm (hK8 ?_)
      refine wc_ret ?_
      refine hret rfl B2 rfl ?_
      rw [hX, if_neg (by omega), if_pos (by omega)]; exact ⟨_, rfl, ⟨_, _, _, _, _, _, _, _, _, _, _, _, _, _, _, rfl, J1.out.mono (by omega), PropF.zero _ _⟩, H2.mono (fun k hk => by simp [hk]) hmi hmr, (F.drop (by omega)).drop (by omega)⟩
    · skip
      refine wc_region ?_
      refine wl_y (y_move rfl) rfl ?_
      refine wl_call Tryz.func79 rfl rfl rfl (note_in 3 3 rfl (by omega) _ H1) rfl ?_
      rintro e w2 ⟨rfl, H2, ex⟩
      refine ⟨_, rfl, ?_⟩
      rw [noteX_bad] at H2
      replace F := F.chs ex
      replace B2 := B2.chs ex
      replace B3 := B3.chs ex
      refine wl_nil ?_
      refine wq_blk_norm ?_
      refine wq_then_norm (hK3 ?_)
      refine wc_seq ?_; intro K9 hK9
      refine wc_region ?_
      refine wl_y (y_loadx (o := 0) (s := 17) rfl Tryz.underlying95 rfl (by kernel_rfl) B3 rfl) rfl ?_
      refine wl_ef (ef_storeP (o := 0) rfl rfl (by kernel_rfl) B2 (Nat.le_of_ble_eq_true rfl) (all_ones rfl)) rfl ?_
      rintro _ wS8_1 ⟨rfl, D, cg⟩
      have ex := Chs.one cg
      clear cg
      replace F := F.chs ex
      replace B3 := B3.chs ex
      replace H2 := H2.chs ex
      replace B2 := D; clear D
      replace B2 := B2.congr (cs' := itmV nilH 0 nilH nilH nilH nilH 0 nilH nilH nilH nilH nilH nilH 0 nilH nilH 0) rfl
      refine wl_nil ?_
      refine wq_then_norm (hK9 ?_)
      refine wc_ret ?_
      refine hret rfl B2 rfl ?_
      rw [hX, if_neg (by omega), if_neg (by omega)]; exact ⟨_, rfl, ⟨_, _, _, _, _, _, _, _, _, _, _, _, _, _, _, rfl, Fb.nil _ _ _, PropF.zero _ _⟩, H2.mono (fun k hk => by simp [hk]) hmi hmr, (F.drop (by omega)).drop (by omega)⟩
end
end Go.Proofs.YtpgalbgonmclaaaGreat
