/-
  Own helper theorems of no one function: blocks that were made ahead of their turn (half-known), and how they become known.
-/
import Derived.Test.YtolhahlnccekcaaDoorPwA14
namespace Go.Proofs.YtolhahlnccekcaaDoor.Abs
open Go.RowKit

def Conc.half (c : Conc) (q : Pa) (b : Nat) : Conc := { c with ρ := fun id => if id = q then some b else c.ρ id }
def Conc.full1 (c : Conc) (q : Pa) : Conc := { c with κ := fun s => match s with | .cell id off v => if id = q ∧ v = 0 then some .full else c.κ (.cell id off v) | s => c.κ s }

section
variable {c c' : Conc} {m m' : M} {w w' : World}
theorem Le.half {q : Pa} {b : Nat} (hf : FreshAt c q) : Le c (c.half q b) := by
  refine ⟨rfl, fun _ h => h, fun id b' h => ?_, fun _ _ h => h, fun _ _ _ h => h⟩
  show (if id = q then some b else c.ρ id) = some b'
  rw [if_neg]
  · exact h
  · rintro rfl; rw [hf.1] at h; cases h
theorem Rep.half (h : Rep c m w) {q : Pa} (hf : FreshAt c q) (cs : List Value) (t : TypeId) :
    Rep (c.half q w.heap.size) m (w.alloc (.cells cs.toArray t)) ∧ Ext q c m w (c.half q w.heap.size) m (w.alloc (.cells cs.toArray t)) ∧ Blank (c.half q w.heap.size) m q := by
  have hle : Le c (c.half q w.heap.size) := Le.half hf
  have hnb := h.fresh_blk hf
  have hg : w.grownBy (w.alloc (.cells cs.toArray t)) none := galloc (grefl w none) _
  have h1 := h.grown hg
  have hρ : ∀ id, m.blk id ≠ none → (c.half q w.heap.size).ρ id = c.ρ id := by
    intro id hid
    show (if id = q then _ else c.ρ id) = _
    rw [if_neg (by rintro rfl; exact hid hnb)]
  have hown : ∀ b, Owned (c.half q w.heap.size) m b → Owned c m b := by
    rintro b (⟨id, hid, hr⟩ | ho)
    · exact .inl ⟨id, hid, by rw [← hρ id hid]; exact hr⟩
    · exact .inr ho
  have hX := Rep.ext_grown q c m hg
  refine ⟨⟨h1.com, fun id vs hv => ?_, fun id id' b hi hi' hr hr' => h1.inj id id' b hi hi' (by rw [← hρ id hi]; exact hr) (by rw [← hρ id' hi']; exact hr'), fun s b cap sz len hl hk => ?_, h1.ownInj, h1.ver, fun g => (h1.gl g).mono hle, fun id hfr => h1.ver0 id (hfr.anti hle), h1.base, fun b hb => ⟨(h1.lit b hb).1, (h1.lit b hb).2.1, fun ho => (h1.lit b hb).2.2 (hown b ho)⟩⟩,
    ⟨hle, hX.os, hX.tape, hX.output, hX.size, hX.heap, fun _ _ _ _ => rfl, fun b _ ho => hown b ho, fun id hid hfr => ?_, fun id hid hb => ⟨hb.blk, hb.anon, hb.cell, hb.ver, hb.tok⟩, fun _ _ x => x⟩, ⟨hnb, hf.2.1, hf.2.2, (h.ver0 q hf).1, (h.ver0 q hf).2⟩⟩
  · obtain ⟨b, ys, t', k1, k2, k3, k4, k5⟩ := h1.blk id vs hv
    exact ⟨b, ys, t', by rw [hρ id (by rw [hv]; simp)]; exact k1, k2, k3.mono hle, k4, k5⟩
  · obtain ⟨k1, k2, k3, k4⟩ := h1.own s b cap sz len hl hk
    exact ⟨k1, k2, fun id hid => by rw [hρ id hid]; exact k3 id hid, k4⟩
  · have hne : id ≠ q := by rintro rfl; exact hid (List.suffix_refl _)
    exact ⟨by show (if id = q then _ else c.ρ id) = none; rw [if_neg hne]; exact hfr.1, hfr.2⟩

/-- a block that is made, but of which only the place is known -/
structure Half (n0 : Nat) (c : Conc) (m : M) (w : World) (p : Pa) (vs : List V) : Prop where
  at_ : ∃ b t cs, c.ρ p = some b ∧ Blk w b t cs ∧ CR c vs cs.toList ∧ (∀ u ∈ cs.toList, u.oneCell' = true) ∧ Out c.G b ∧ ¬ Owned c m b ∧ ¬ c.lit b ∧ n0 ≤ b
  blank : Blank c m p
theorem Half.step {n0 : Nat} {p q : Pa} {vs : List V} (h : Half n0 c m w p vs) (hX : Ext q c m w c' m' w') (hp : ¬ q <:+ p) : Half n0 c' m' w' p vs := by
  obtain ⟨⟨b, t, cs, h1, h2, h3, h4, h5, h6, h7, h8⟩, h9⟩ := h
  have hlt := h2.lt
  refine ⟨⟨b, t, cs, hX.le.ρ _ _ h1, (hX.heap b hlt h6 (.inr h5)).trans h2, h3.mono hX.le, h4, fun o => ?_, fun ho => h6 (hX.own b hlt ho), fun hl => h7 (hX.lits b hlt hl), h8⟩, hX.keep p hp h9⟩
  rw [hX.book b hlt h6 o]; exact h5 o

theorem Le.full1 {p : Pa} (hb : Blank c m p) : Le c (c.full1 p) := by
  refine ⟨rfl, fun _ h => h, fun _ _ h => h, fun s i h => ?_, fun _ _ _ h => h⟩
  cases s with
  | anon id j => exact h
  | cell id off v =>
    show (if id = p ∧ v = 0 then some Info.full else c.κ (.cell id off v)) = some i
    rw [if_neg]
    · exact h
    · rintro ⟨rfl, _⟩; rw [hb.cell] at h; cases h

/-- the block becomes known -/
theorem Half.promote {n0 : Nat} {p : Pa} {vs : List V} (h : Rep c m w) (hh : Half n0 c m w p vs) :
    Rep (c.full1 p) (m.set p (vs.map V.raw0)) w ∧ Le c (c.full1 p) ∧ ∀ b, Owned (c.full1 p) (m.set p (vs.map V.raw0)) b → Owned c m b ∨ c.ρ p = some b := by
  obtain ⟨⟨bp, t, cs, h1, h2, h3, h4, h5, h6, h7, h8⟩, h9⟩ := hh
  have hle : Le c (c.full1 p) := Le.full1 h9
  have hκa : ∀ id j, (c.full1 p).κ (.anon id j) = c.κ (.anon id j) := fun _ _ => rfl
  have hκc : ∀ id off v, (c.full1 p).κ (.cell id off v) = if id = p ∧ v = 0 then some .full else c.κ (.cell id off v) := fun _ _ _ => rfl
  have hset : ∀ id, (m.set p (vs.map V.raw0)).blk id = if id = p then some (vs.map V.raw0) else m.blk id := fun _ => rfl
  have harr : ∀ s b cap sz len, (c.full1 p).κ s = some (.arr b cap sz len) → c.κ s = some (.arr b cap sz len) := by
    intro s b cap sz len hk
    cases s with
    | anon id j => exact hk
    | cell id off v =>
      rw [hκc] at hk
      split at hk
      · cases hk
      · exact hk
  have hlive : ∀ s b cap sz len, liveB (m.set p (vs.map V.raw0)) s = true → c.κ s = some (.arr b cap sz len) → liveB m s = true := by
    intro s b cap sz len hl hk
    cases s with
    | anon id j => exact hl
    | cell id off v =>
      obtain ⟨k1, xs, rows, k2, k3⟩ := liveB_cell hl
      rw [hset] at k2
      split at k2
      · rename_i e; subst e; rw [h9.cell] at hk; cases hk
      · exact liveB_mk k1 k2 k3
  have hblk : ∀ id, id ≠ p → (m.set p (vs.map V.raw0)).blk id ≠ none → m.blk id ≠ none := by
    intro id hne hid; rw [hset, if_neg hne] at hid; exact hid
  have hown : ∀ b, Owned (c.full1 p) (m.set p (vs.map V.raw0)) b → Owned c m b ∨ c.ρ p = some b := by
    rintro b (⟨id, hid, hr⟩ | ⟨s, cap, sz, len, hl, hk⟩)
    · by_cases e : id = p
      · subst e; exact .inr hr
      · exact .inl (.inl ⟨id, hblk id e hid, hr⟩)
    · have k1 := harr _ _ _ _ _ hk
      exact .inl (.inr ⟨s, cap, sz, len, hlive _ _ _ _ _ hl k1, k1⟩)
  have hnp : ∀ id, m.blk id ≠ none → c.ρ id ≠ some bp := fun id hid hr => h6 (.inl ⟨id, hid, hr⟩)
  refine ⟨⟨h.com, fun id xs hx => ?_, fun id id' b hi hi' hr hr' => ?_, fun s b cap sz len hl hk => ?_, fun s s' b cap sz len cap' sz' len' hl hl' hk hk' => ?_, fun id off v hb hv => ?_, fun g => (h.gl g).mono hle, fun id hf => h.ver0 id (hf.anti hle), h.base, fun b hb => ⟨(h.lit b hb).1, (h.lit b hb).2.1, fun ho => ?_⟩⟩, hle, hown⟩
  · rw [hset] at hx
    split at hx
    · rename_i e
      subst e
      injection hx with hx
      subst hx
      refine ⟨bp, cs, t, h1, h2, ?_, h5, h4⟩
      exact lds_raw0 hle h3 (fun n => by rw [hκc, if_pos ⟨rfl, h9.ver n⟩])
    · obtain ⟨b, ys, t', hr, hB, k1, k2, k3⟩ := h.blk id xs hx
      exact ⟨b, ys, t', hr, hB, k1.mono hle, k2, k3⟩
  · by_cases e1 : id = p <;> by_cases e2 : id' = p
    · rw [e1, e2]
    · subst e1
      have hr1 : c.ρ id = some b := hr
      rw [h1] at hr1; injection hr1 with e; subst e
      exact absurd hr' (hnp id' (hblk id' e2 hi'))
    · subst e2
      have hr1 : c.ρ id' = some b := hr'
      rw [h1] at hr1; injection hr1 with e; subst e
      exact absurd hr (hnp id (hblk id e1 hi))
    · exact h.inj id id' b (hblk id e1 hi) (hblk id' e2 hi') hr hr'
  · have hk0 := harr _ _ _ _ _ hk
    have hl0 := hlive _ _ _ _ _ hl hk0
    obtain ⟨k1, k2, k3, k4⟩ := h.own s b cap sz len hl0 hk0
    refine ⟨k1, k2, fun id hid hr => ?_, k4⟩
    by_cases e : id = p
    · subst e
      have hr1 : c.ρ id = some b := hr
      rw [h1] at hr1; injection hr1 with e; subst e
      exact h6 (.inr ⟨s, cap, sz, len, hl0, hk0⟩)
    · exact k3 id (hblk id e hid) hr
  · have k1 := harr _ _ _ _ _ hk
    have k2 := harr _ _ _ _ _ hk'
    exact h.ownInj s s' b cap sz len cap' sz' len' (hlive _ _ _ _ _ hl k1) (hlive _ _ _ _ _ hl' k2) k1 k2
  · have hv' : m.ver id off < v := hv
    rw [hκc, if_neg (by rintro ⟨_, rfl⟩; omega)]
    by_cases e : id = p
    · subst e; exact h9.cell off v
    · exact h.ver id off v (hblk id e hb) hv'
  · rcases hown b ho with ho | ho
    · exact (h.lit b hb).2.2 ho
    · rw [h1] at ho; injection ho with e; subst e; exact h7 hb
theorem Blank.promote {p id : Pa} {vs : List V} (h : Blank c m id) (hne : id ≠ p) : Blank (c.full1 p) (m.set p vs) id := by
  refine ⟨?_, h.anon, fun off v => ?_, h.ver, h.tok⟩
  · show (if id = p then _ else m.blk id) = none
    rw [if_neg hne]; exact h.blk
  · show (if id = p ∧ v = 0 then _ else c.κ (.cell id off v)) = none
    rw [if_neg (by rintro ⟨e, _⟩; exact hne e)]; exact h.cell off v
theorem FreshAt.promote {p id : Pa} (h : FreshAt c id) (hne : id ≠ p) : FreshAt (c.full1 p) id := by
  refine ⟨h.1, h.2.1, fun off v => ?_⟩
  show (if id = p ∧ v = 0 then _ else c.κ (.cell id off v)) = none
  rw [if_neg (by rintro ⟨e, _⟩; exact hne e)]; exact h.2.2 off v
theorem Ext.promote {π p : Pa} {vs : List V} {c0 : Conc} {m0 : M} {w0 : World} (hX : Ext π c0 m0 w0 c m w) (h : Rep c m w) (hh : Half w0.heap.size c m w p vs) (hp : π <:+ p) : Ext π c0 m0 w0 (c.full1 p) (m.set p (vs.map V.raw0)) w := by
  obtain ⟨_, k2, k3⟩ := hh.promote h
  have hne : ∀ id, ¬ π <:+ id → id ≠ p := fun id hid e => hid (e ▸ hp)
  refine ⟨hX.le.trans k2, hX.os, hX.tape, hX.output, hX.size, hX.heap, hX.book, fun b hb ho => ?_, fun id hid hf => (hX.fresh id hid hf).promote (hne id hid), fun id hid hb => (hX.keep id hid hb).promote (hne id hid), hX.lits⟩
  rcases k3 b ho with ho | ho
  · exact hX.own b hb ho
  · obtain ⟨⟨b', _, _, h1, _, _, _, _, _, _, h8⟩, _⟩ := hh
    rw [h1] at ho; injection ho with e; omega

def setAll (m : M) (L : List (Pa × List V)) : M := L.foldl (fun m x => m.set x.1 (x.2.map V.raw0)) m
/-- several half-known blocks, of different places -/
structure Halves (n0 : Nat) (c : Conc) (m : M) (w : World) (L : List (Pa × List V)) : Prop where
  all : ∀ x ∈ L, Half n0 c m w x.1 x.2
  inj : ∀ x ∈ L, ∀ y ∈ L, c.ρ x.1 = c.ρ y.1 → x.1 = y.1
theorem Halves.sub {n0 : Nat} {L L' : List (Pa × List V)} (h : Halves n0 c m w L) (hs : ∀ x ∈ L', x ∈ L) : Halves n0 c m w L' := ⟨fun x hx => h.all x (hs x hx), fun x hx y hy => h.inj x (hs x hx) y (hs y hy)⟩
theorem Halves.promote1 {n0 : Nat} {x : Pa × List V} {L : List (Pa × List V)} (h : Rep c m w) (hh : Halves n0 c m w (x :: L)) (hx : ∀ y ∈ L, y.1 ≠ x.1) : Halves n0 (c.full1 x.1) (m.set x.1 (x.2.map V.raw0)) w L := by
  obtain ⟨_, k2, k3⟩ := (hh.all x (by simp)).promote h
  refine ⟨fun y hy => ?_, fun y hy z hz => hh.inj y (by simp [hy]) z (by simp [hz])⟩
  obtain ⟨⟨b, t, cs, h1, h2, h3, h4, h5, h6, h7, h8⟩, h9⟩ := hh.all y (by simp [hy])
  refine ⟨⟨b, t, cs, h1, h2, h3.mono k2, h4, h5, fun ho => ?_, h7, h8⟩, h9.promote (hx y hy)⟩
  rcases k3 b ho with ho | ho
  · exact h6 ho
  · exact hx y hy (hh.inj y (by simp [hy]) x (by simp) (by rw [h1, ho]))
theorem Halves.promote {π : Pa} {c0 : Conc} {m0 : M} {w0 : World} : ∀ (L : List (Pa × List V)) {R : List (Pa × List V)} {c : Conc} {m : M}, Rep c m w → Ext π c0 m0 w0 c m w → Halves w0.heap.size c m w (L ++ R) → (L ++ R).Pairwise (fun x y => y.1 ≠ x.1) → (∀ x ∈ L, π <:+ x.1) →
    ∃ c', Rep c' (setAll m L) w ∧ Ext π c0 m0 w0 c' (setAll m L) w ∧ Le c c' ∧ Halves w0.heap.size c' (setAll m L) w R ∧ (∀ id, (∀ x ∈ L, id ≠ x.1) → FreshAt c id → FreshAt c' id) ∧ c'.ρ = c.ρ := by
  intro L
  induction L with
  | nil => intro R c m h hX hh _ _; exact ⟨c, h, hX, .refl c, hh, fun _ _ x => x, rfl⟩
  | cons x L ih =>
    intro R c m h hX hh hp hπ
    rw [List.cons_append, List.pairwise_cons] at hp
    have hhx := hh.all x (by simp)
    obtain ⟨k1, k2, k3⟩ := hhx.promote h
    obtain ⟨c', g1, g2, g3, g4, g5, g6⟩ := ih k1 (hX.promote h hhx (hπ x (by simp))) (Halves.promote1 h hh hp.1) hp.2 (fun y hy => hπ y (by simp [hy]))
    exact ⟨c', g1, g2, k2.trans g3, g4, fun id hid hf => g5 id (fun y hy => hid y (by simp [hy])) (hf.promote (hid x (by simp))), g6⟩
end
end Go.Proofs.YtolhahlnccekcaaDoor.Abs
