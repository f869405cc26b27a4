/- Rows of structs that a call owns: what is appended, what is kept, and what each element is. No conditions: plain lemmas of the model. -/
import Derived.Test.YtpgalbgonmclaaaVk
import Derived.Test.YtpgalbgonmclaaaMsG
namespace Go.Proofs.Ytpgalbgonmclaaa
open Go.RowKit
/-- A row whose elements have sz cells. -/
def RowW (w : World) (base : Nat) (e : TypeId) (sz : Nat) (A : Option Addr) (n c : Nat) (xs : List Value) : Prop := w.ownsRow base e sz (.slice A n c) n xs
section
variable {w w' : World} {base : Nat} {e : TypeId} {sz : Nat} {A : Option Addr} {n c m : Nat} {xs : List Value} {S : List Nat}
theorem RowW.empty (w : World) (base : Nat) (e : TypeId) (sz : Nat) : RowW w base e sz none 0 0 [] := ⟨by simp, .inl ⟨rfl, rfl⟩⟩
theorem RowW.len (h : RowW w base e sz A n c xs) : xs.length = n * sz := h.1
theorem RowW.cap (h : RowW w base e sz A n c xs) : n ≤ c := by
  rcases h.2 with ⟨hv, rfl⟩ | ⟨g, cap, cur, hv, _, _, hc, _⟩
  · omega
  · injection hv with _ _ hv; omega
theorem RowW.at (h : RowW w base e sz A n c xs) : At w A xs := by
  have h0 := h
  rcases h.2 with ⟨hv, rfl⟩ | ⟨g, cap, cur, hv, _⟩
  · have := h.1
    exact .inl (List.eq_nil_of_length_eq_zero (by omega))
  · injection hv with hA
    subst hA
    exact At.of_add (World.ownsRow.cells h0 rfl)
theorem RowW.lt {g o : Nat} (h : RowW w base e sz (some ⟨g, o, none⟩) n c xs) : base ≤ g ∧ g < w.heap.size := World.ownsRow.lt h g rfl
theorem RowW.lower (h : RowW w base e sz A n c xs) {b : Nat} (hb : b ≤ base) : RowW w b e sz A n c xs := by
  refine ⟨h.1, ?_⟩
  rcases h.2 with h | ⟨g, cap, cur, hv, hg, r⟩
  · exact .inl h
  · exact .inr ⟨g, cap, cur, hv, by omega, r⟩
theorem RowW.kp (h : RowW w base e sz A n c xs) (hS : ∀ g ∈ S, g < base) : Kp w.heap.size S (fun w => RowW w base e sz A n c xs) w := by
  refine ⟨Nat.le_refl _, fun w2 hw => ⟨h.1, ?_⟩⟩
  rcases h.2 with h0 | ⟨g, cap, cur, hv, hg, hb, r⟩
  · exact .inl h0
  · have hlt : g < w.heap.size := (Array.getElem?_eq_some_iff.1 hb).1
    exact .inr ⟨g, cap, cur, hv, hg, (hw g hlt fun hm => by have := hS g hm; omega).trans hb, r⟩
theorem RowW.chs (h : RowW w base e sz A n c xs) (k : Chs S w w') (hS : ∀ g ∈ S, g < base := by first | (simp; done) | (simp; omega)) : RowW w' base e sz A n c xs := ((h.kp hS).chs k (fun _ h => h)).out
theorem RowW.ext (h : RowW w base e sz A n c xs) (k : Ext w w') : RowW w' base e sz A n c xs := h.chs (S := []) (Chs.of k [])
theorem RowW.ownGe (h : RowW w base e sz A n c xs) : ∀ g ∈ (Value.slice A m c).ownBlock.toList, base ≤ g ∧ g < w.heap.size := by
  intro g hg
  have h0 := h
  rcases h.2 with ⟨hv, _⟩ | ⟨g', cap, cur, hv, hb, hk, _⟩
  · injection hv with hA; subst hA; simp [Value.ownBlock] at hg
  · injection hv with hA; subst hA
    simp only [Value.ownBlock, Option.toList_some, List.mem_singleton] at hg
    subst hg
    exact ⟨hb, (Array.getElem?_eq_some_iff.1 hk).1⟩
theorem RowW.congr {ys : List Value} {n' : Nat} (h : RowW w base e sz A n c xs) (hn : n = n') (hx : xs = ys) : RowW w base e sz A n' c ys := by subst hn; subst hx; exact h
end
/-- An element type of sz cells: what the tables say of it. -/
structure EltW (P : Program) (t e : TypeId) (sz bytes : Nat) : Prop where
  ht : P.underlying t = some (.slice e)
  pos : 0 < sz
  row : ∃ (i : TypeInfo) (z : Value), P.info? e = some i ∧ i.zero = some z ∧ i.size = sz ∧ i.bytes = bytes ∧ z.cells.size = sz
theorem EltW.of {P : Program} {t e : TypeId} {z : Value} {sz bytes : Nat} (ht : P.underlying t = some (.slice e)) (h : (P.info? e).map (fun i => (i.zero, i.size, i.bytes)) = some (some z, sz, bytes)) (hz : z.cells.size = sz) (hp : 0 < sz) : EltW P t e sz bytes := by
  obtain ⟨i, h1, h2, h3, h4⟩ := info_parts h
  exact ⟨ht, hp, i, z, h1, h2, h3, h4, hz⟩
section
variable {P : Program} {L : List (Nat × Value)} {w : World} {ty t e : TypeId} {x y : Operand}
end
section
variable {N : Nat} {S S' : List Nat} {Φ Ψ : World → Prop} {w w' : World} {o o' : Option Nat}
theorem Kp.bump (h : Kp N S Φ w) {M : Nat} (h1 : N ≤ M) (h2 : M ≤ w.heap.size) : Kp M S Φ w := ⟨h2, fun w2 hw => h.2 w2 fun k hk hn => hw k (by omega) hn⟩
theorem Kp.and (h : Kp N S Φ w) (k : Kp N S Ψ w) : Kp N S (fun w => Φ w ∧ Ψ w) w := ⟨h.1, fun w2 hw => ⟨h.2 w2 hw, k.2 w2 hw⟩⟩
theorem Kp.all {α : Type} {Φ : α → World → Prop} (hN : N ≤ w.heap.size) (h : ∀ x, Kp N S (Φ x) w) : Kp N S (fun w => ∀ x, Φ x w) w := ⟨hN, fun w2 hw x => (h x).2 w2 hw⟩
end
/-- A row of structs that is being made: its elements are as R says, whatever becomes of the row's own block and of the blocks of S. -/
def ElsK {α : Type} (R : World → Array Value → α → Prop) (sz : Nat) (e : TypeId) (base N : Nat) (S : List Nat) (w : World) (A : Option Addr) (n c : Nat) (zs : List α) : Prop :=
  zs.length = n ∧ ∃ vals, RowW w base e sz A n c vals ∧ ∀ i x, zs[i]? = some x → Kp N ((Value.slice A n c).ownBlock.toList ++ S) (fun w => R w ((vals.drop (i * sz)).take sz).toArray x) w
section
variable {α : Type} {R : World → Array Value → α → Prop} {sz : Nat} {e : TypeId} {base N : Nat} {S S' : List Nat} {w w' : World} {A : Option Addr} {n c : Nat} {zs : List α}
theorem ElsK.empty (R : World → Array Value → α → Prop) (sz : Nat) (e : TypeId) (base N : Nat) (S : List Nat) (w : World) : ElsK R sz e base N S w none 0 0 [] := ⟨rfl, [], RowW.empty _ _ _ _, fun i x hx => by simp at hx⟩
theorem ElsK.row (h : ElsK R sz e base N S w A n c zs) : ∃ vals, RowW w base e sz A n c vals := by obtain ⟨_, vals, h, _⟩ := h; exact ⟨vals, h⟩
theorem ElsK.bump (h : ElsK R sz e base N S w A n c zs) {M : Nat} (h1 : N ≤ M) (h2 : M ≤ w.heap.size) : ElsK R sz e base M S w A n c zs := by
  obtain ⟨hl, vals, hr, hk⟩ := h
  exact ⟨hl, vals, hr, fun i x hx => (hk i x hx).bump h1 h2⟩
theorem ElsK.chs (h : ElsK R sz e base N S w A n c zs) (k : Chs S' w w') (hs : ∀ k ∈ S', k ∈ S := by first | (simp; done) | (simp; assumption)) (hb : ∀ g ∈ S', g < base := by first | (simp; done) | (simp; omega)) : ElsK R sz e base N S w' A n c zs := by
  obtain ⟨hl, vals, hr, hk⟩ := h
  exact ⟨hl, vals, hr.chs k hb, fun i x hx => (hk i x hx).chs k fun g hg => List.mem_append_right _ (hs g hg)⟩
theorem ElsK.ext (h : ElsK R sz e base N S w A n c zs) (k : Ext w w') : ElsK R sz e base N S w' A n c zs := h.chs (S' := []) (Chs.of k []) (by simp) (by simp)
theorem ElsK.grow {k : Nat} (h : ElsK R sz e base N S w A n c zs) (E : Ext w w') (_ : w.heap.size ≤ k) : ElsK R sz e base N S w' A n c zs := h.ext E
/-- What is made at last. -/
def ElsF (base : Nat) (R : World → Array Value → α → Prop) (sz : Nat) (w : World) (A : Option Addr) (n : Nat) (zs : List α) : Prop := Els R sz w A n zs ∧ (0 < n → ∀ b o, A = some ⟨b, o, none⟩ → base ≤ b)
theorem ElsF.nil (base : Nat) (R : World → Array Value → α → Prop) (sz : Nat) (w : World) (A : Option Addr) : ElsF base R sz w A 0 [] := ⟨Els.nil _ _ _ _, fun h => absurd h (by omega)⟩
theorem ElsF.mono {base' : Nat} (h : ElsF base R sz w A n zs) (hb : base' ≤ base) {R' : World → Array Value → α → Prop} (hR : ∀ cs x, R w cs x → R' w cs x) : ElsF base' R' sz w A n zs := by
  obtain ⟨⟨hl, vs, h2, h3, h4⟩, hf⟩ := h
  exact ⟨⟨hl, vs, h2, h3, fun i x hx => hR _ _ (h4 i x hx)⟩, fun hn b o e => Nat.le_trans hb (hf hn b o e)⟩
theorem ElsF.kk (h : ElsF base R sz w A n zs) (hz : 0 < sz) (hS : ∀ g ∈ S, g < base) (hR : ∀ cs x, R w cs x → Kp w.heap.size S (fun w => R w cs x) w) : Kp w.heap.size S (fun w => ElsF base R sz w A n zs) w := by
  obtain ⟨⟨hl, vs, h2, h3, h4⟩, hf⟩ := h
  refine ⟨Nat.le_refl _, fun w2 hw => ⟨⟨hl, vs, h2, ?_, fun i x hx => (hR _ _ (h4 i x hx)).2 w2 hw⟩, hf⟩⟩
  refine (Kp.at h3 fun hne g hg o e => ?_).2 w2 hw
  have hn : 0 < n := by
    rcases Nat.eq_zero_or_pos n with h | h
    · subst h; rw [Nat.zero_mul] at h2; exact absurd (List.eq_nil_of_length_eq_zero h2) hne
    · exact h
  have := hf hn g o e; have := hS g hg; omega
theorem ElsF.at (h : ElsF base R sz w A n zs) : Els R sz w A n zs := h.1
end
end Go.Proofs.Ytpgalbgonmclaaa
