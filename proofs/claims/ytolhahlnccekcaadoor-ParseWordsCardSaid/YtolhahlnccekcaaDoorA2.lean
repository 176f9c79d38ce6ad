/-
  Own helper theorems of no one function: what a world must be for a memory seen from above (Rep), and what may become of it (Ext).
-/
import Derived.Test.YtolhahlnccekcaaDoorA1
namespace Go.Proofs.YtolhahlnccekcaaDoor.Abs
open Go.RowKit

def V.ld (s : Stamp) : V → V
  | .list .self rows => .list (.st s) rows
  | v => v
/-- what is read out of a block's cells -/
def lds (ver : Nat → Nat) (id : Pa) (vs : List V) : List V := vs.mapIdx fun off v => v.ld (.cell id off (ver off))

def liveB (m : M) : Stamp → Bool
  | .anon id j => m.tok id j
  | .cell id off v => m.ver id off == v && (match m.blk id with | some vs => (match vs[off]? with | some (.list .self _) => true | _ => false) | none => false)

def FreshAt (c : Conc) (id : Pa) : Prop := c.ρ id = none ∧ (∀ i, c.κ (.anon id i) = none) ∧ ∀ off v, c.κ (.cell id off v) = none
theorem FreshAt.anti {c c' : Conc} (hl : Le c c') {id : Pa} (h : FreshAt c' id) : FreshAt c id := by
  refine ⟨?_, fun i => ?_, fun off v => ?_⟩
  · cases hx : c.ρ id with
    | none => rfl
    | some b => have := hl.ρ _ _ hx; rw [h.1] at this; cases this
  · cases hx : c.κ (.anon id i) with
    | none => rfl
    | some b => have := hl.κ _ _ hx; rw [h.2.1] at this; cases this
  · cases hx : c.κ (.cell id off v) with
    | none => rfl
    | some b => have := hl.κ _ _ hx; rw [h.2.2] at this; cases this
def Owned (c : Conc) (m : M) (b : Nat) : Prop := (∃ id, m.blk id ≠ none ∧ c.ρ id = some b) ∨ ∃ s cap sz len, liveB m s = true ∧ c.κ s = some (.arr b cap sz len)
structure Rep (c : Conc) (m : M) (w : World) : Prop where
  com : Com w c.G
  blk : ∀ id vs, m.blk id = some vs → ∃ b cs t, c.ρ id = some b ∧ Blk w b t cs ∧ CR c (lds (m.ver id) id vs) cs.toList ∧ Out c.G b ∧ ∀ u ∈ cs.toList, u.oneCell' = true
  inj : ∀ id id' b, m.blk id ≠ none → m.blk id' ≠ none → c.ρ id = some b → c.ρ id' = some b → id = id'
  own : ∀ s b cap sz len, liveB m s = true → c.κ s = some (.arr b cap sz len) → (∃ cs t, Blk w b t cs ∧ cs.size = cap * sz) ∧ (∀ o, len * sz ≤ o → c.G b o = none) ∧ (∀ id, m.blk id ≠ none → c.ρ id ≠ some b) ∧ len ≤ cap ∧ 0 < sz
  ownInj : ∀ s s' b cap sz len cap' sz' len', liveB m s = true → liveB m s' = true → c.κ s = some (.arr b cap sz len) → c.κ s' = some (.arr b cap' sz' len') → s = s'
  ver : ∀ id off v, m.blk id ≠ none → m.ver id off < v → c.κ (.cell id off v) = none
  gl : ∀ g, CR c [m.gl g] [.pointer (some ⟨g, 0, none⟩)]
  ver0 : ∀ id, FreshAt c id → (∀ off, m.ver id off = 0) ∧ ∀ j, m.tok id j = false
  base : c.base ≤ w.heap.size
  lit : ∀ b, c.lit b → c.base ≤ b ∧ b < w.heap.size ∧ ¬ Owned c m b

/-- nothing that is at or under a path is known -/
def FreshU (c : Conc) (q : Pa) : Prop := ∀ id, q <:+ id → FreshAt c id
def FreshK (c : Conc) (π : Pa) (k : Nat) : Prop := ∀ j, k ≤ j → FreshU c (j :: π)


/-- nothing is under a path's own name, but perhaps a block that nobody looks at -/
structure Blank (c : Conc) (m : M) (id : Pa) : Prop where
  blk : m.blk id = none
  anon : ∀ i, c.κ (.anon id i) = none
  cell : ∀ off v, c.κ (.cell id off v) = none
  ver : ∀ off, m.ver id off = 0
  tok : ∀ j, m.tok id j = false

structure Ext (q : Pa) (c : Conc) (m : M) (w : World) (c' : Conc) (m' : M) (w' : World) : Prop where
  le : Le c c'
  os : w'.os = w.os
  tape : w'.tape = w.tape
  output : w'.output = w.output
  size : w.heap.size ≤ w'.heap.size
  heap : ∀ b, b < w.heap.size → ¬ Owned c m b → (b < c.base ∨ Out c.G b) → w'.heap[b]? = w.heap[b]?
  book : ∀ b, b < w.heap.size → ¬ Owned c m b → ∀ o, c'.G b o = c.G b o
  own : ∀ b, b < w.heap.size → Owned c' m' b → Owned c m b
  fresh : ∀ id, ¬ q <:+ id → FreshAt c id → FreshAt c' id
  keep : ∀ id, ¬ q <:+ id → Blank c m id → Blank c' m' id
  lits : ∀ b, b < w.heap.size → c'.lit b → c.lit b

theorem Ext.refl (q : Pa) (c : Conc) (m : M) (w : World) : Ext q c m w c m w := ⟨.refl c, rfl, rfl, rfl, Nat.le_refl _, fun _ _ _ _ => rfl, fun _ _ _ _ => rfl, fun _ _ h => h, fun _ _ h => h, fun _ _ h => h, fun _ _ h => h⟩
theorem Ext.trans {q : Pa} {c c' c'' : Conc} {m m' m'' : M} {w w' w'' : World} (h : Ext q c m w c' m' w') (k : Ext q c' m' w' c'' m'' w'') : Ext q c m w c'' m'' w'' :=
  ⟨h.le.trans k.le, k.os.trans h.os, k.tape.trans h.tape, k.output.trans h.output, Nat.le_trans h.size k.size,
   fun b hb ho hx => (k.heap b (Nat.lt_of_lt_of_le hb h.size) (fun x => ho (h.own b hb x)) (hx.imp (fun e => by rw [h.le.base]; exact e) (fun e o => (h.book b hb ho o).trans (e o)))).trans (h.heap b hb ho hx),
   fun b hb ho o => (k.book b (Nat.lt_of_lt_of_le hb h.size) (fun x => ho (h.own b hb x)) o).trans (h.book b hb ho o),
   fun b hb x => h.own b hb (k.own b (Nat.lt_of_lt_of_le hb h.size) x), fun id hid x => k.fresh id hid (h.fresh id hid x), fun id hid x => k.keep id hid (h.keep id hid x), fun b hb x => h.lits b hb (k.lits b (Nat.lt_of_lt_of_le hb h.size) x)⟩
theorem Ext.widen {q π : Pa} {c c' : Conc} {m m' : M} {w w' : World} (h : Ext q c m w c' m' w') (hs : ∀ id, q <:+ id → π <:+ id) : Ext π c m w c' m' w' :=
  ⟨h.le, h.os, h.tape, h.output, h.size, h.heap, h.book, h.own, fun id hid x => h.fresh id (fun y => hid (hs id y)) x, fun id hid x => h.keep id (fun y => hid (hs id y)) x, h.lits⟩
theorem under_tail {π : Pa} {j : Nat} {id : Pa} (h : (j :: π) <:+ id) : π <:+ id := (List.suffix_cons j π).trans h
theorem Ext.up {π : Pa} {k : Nat} {c c' : Conc} {m m' : M} {w w' : World} (h : Ext (k :: π) c m w c' m' w') : Ext π c m w c' m' w' := h.widen fun _ => under_tail
theorem not_under {π : Pa} {j k : Nat} {id : Pa} (h : (j :: π) <:+ id) (hne : j ≠ k) : ¬ (k :: π) <:+ id := by
  intro h2
  obtain ⟨x, hx⟩ := h
  obtain ⟨y, hy⟩ := h2
  have hl : (x ++ [j]).length = (y ++ [k]).length := by
    have h1 := congrArg List.length hx
    have h2 := congrArg List.length hy
    simp at h1 h2 ⊢
    omega
  have he : x ++ [j] ++ π = y ++ [k] ++ π := by simp [hx, hy]
  have := (List.append_inj he hl).1
  have := (List.append_inj this (by simpa using hl)).2
  simp at this
  exact hne this
theorem Ext.freshK {π : Pa} {k : Nat} {c c' : Conc} {m m' : M} {w w' : World} (h : Ext (k :: π) c m w c' m' w') (hf : FreshK c π k) : FreshK c' π (k + 1) :=
  fun j hj id hid => h.fresh id (not_under hid (by omega)) (hf j (by omega) id hid)
theorem FreshK.le {c : Conc} {π : Pa} {k k' : Nat} (h : FreshK c π k) (hk : k ≤ k') : FreshK c π k' := fun j hj => h j (Nat.le_trans hk hj)
theorem FreshK.at_ {c : Conc} {π : Pa} {k : Nat} (h : FreshK c π k) : FreshU c (k :: π) := h k (Nat.le_refl _)
theorem FreshU.at_ {c : Conc} {q : Pa} (h : FreshU c q) : FreshAt c q := h q (List.suffix_refl q)
theorem FreshU.sub {c : Conc} {q : Pa} (h : FreshU c q) : FreshK c q 0 := fun _ _ id hid => h id (under_tail hid)

section
variable {c : Conc} {m : M} {w : World}
theorem Rep.fresh_blk (h : Rep c m w) {q : Pa} (hf : FreshAt c q) : m.blk q = none := by
  cases hb : m.blk q with
  | none => rfl
  | some vs => obtain ⟨b, cs, t, hr, _⟩ := h.blk q vs hb; rw [hf.1] at hr; cases hr
theorem Rep.lt (h : Rep c m w) {id : Pa} {b : Nat} (hb : m.blk id ≠ none) (hr : c.ρ id = some b) : b < w.heap.size := by
  obtain ⟨vs, hv⟩ : ∃ vs, m.blk id = some vs := by cases hx : m.blk id with | none => exact absurd hx hb | some vs => exact ⟨vs, rfl⟩
  obtain ⟨b', cs, t, hr', hB, _⟩ := h.blk id vs hv
  rw [hr] at hr'; injection hr' with hr'; subst hr'
  exact hB.lt
theorem Rep.own_lt (h : Rep c m w) {b : Nat} (ho : Owned c m b) : b < w.heap.size := by
  rcases ho with ⟨id, hb, hr⟩ | ⟨s, cap, sz, len, hl, hk⟩
  · exact h.lt hb hr
  · obtain ⟨⟨cs, t, hB, _⟩, _⟩ := h.own s b cap sz len hl hk
    exact hB.lt
/-- the world may be drawn from -/
theorem Rep.drewN (h : Rep c m w) (n : Nat) : Rep c m (w.drewN n) := ⟨h.com.drewN n, h.blk, h.inj, h.own, h.ownInj, h.ver, h.gl, h.ver0, h.base, h.lit⟩
theorem Ext.drewN (q : Pa) (c : Conc) (m : M) (w : World) (n : Nat) : Ext q c m w c m (w.drewN n) := ⟨.refl c, rfl, rfl, rfl, Nat.le_refl _, fun _ _ _ _ => rfl, fun _ _ _ _ => rfl, fun _ _ h => h, fun _ _ h => h, fun _ _ h => h, fun _ _ h => h⟩

/-- new blocks, that nobody knows -/
theorem Rep.grown (h : Rep c m w) {w' : World} (hg : w.grownBy w' none) : Rep c m w' := by
  refine ⟨h.com.grown hg only_none, fun id vs hv => ?_, h.inj, fun s b cap sz len hl hk => ?_, h.ownInj, h.ver, h.gl, h.ver0, Nat.le_trans h.base hg.size, fun b hb => ⟨(h.lit b hb).1, Nat.lt_of_lt_of_le (h.lit b hb).2.1 hg.size, (h.lit b hb).2.2⟩⟩
  · obtain ⟨b, cs, t, hr, hB, h1, h2, h3⟩ := h.blk id vs hv
    exact ⟨b, cs, t, hr, hB.grown hg (by simp), h1, h2, h3⟩
  · obtain ⟨⟨cs, t, hB, hs⟩, h1⟩ := h.own s b cap sz len hl hk
    exact ⟨⟨cs, t, hB.grown hg (by simp), hs⟩, h1⟩
theorem Rep.ext_grown (q : Pa) (c : Conc) (m : M) {w w' : World} (hg : w.grownBy w' none) : Ext q c m w c m w' :=
  ⟨.refl c, hg.os, hg.tape, hg.output, hg.size, fun b hb _ _ => hg.block b hb (by simp), fun _ _ _ _ => rfl, fun _ _ h => h, fun _ _ h => h, fun _ _ h => h, fun _ _ h => h⟩

/-- the book grows at new blocks that nobody owns -/
def Conc.laid (c : Conc) (b : Nat) (cs : List Value) : Conc := { c with G := lay c.G b cs }
theorem Le.laid {b : Nat} {cs : List Value} (ho : Out c.G b) : Le c (c.laid b cs) := ⟨rfl, fun _ h => h, fun _ _ h => h, fun _ _ h => h, (lay_ext (B := b) (cs := cs) ho (Nat.le_refl _)).le⟩
theorem Rep.laid (h : Rep c m w) {b : Nat} {cs : List Value} (ho : Out c.G b) (hn : ¬ Owned c m b) (hc : ∀ i u, cs[i]? = some u → w.cell? ⟨b, i, none⟩ = some u) : Rep (c.laid b cs) m w := by
  have hl := Le.laid (cs := cs) ho
  refine ⟨lay_com h.com hc, fun id vs hv => ?_, h.inj, fun s b' cap sz len hlv hk => ?_, h.ownInj, h.ver, fun g => (h.gl g).mono hl, fun id hf => h.ver0 id (hf.anti hl), h.base, h.lit⟩
  · obtain ⟨b', xs, t, hr, hB, h1, h2, h3⟩ := h.blk id vs hv
    refine ⟨b', xs, t, hr, hB, h1.mono hl, lay_out h2 (fun e => hn (.inl ⟨id, by rw [hv]; simp, by rw [← e]; exact hr⟩)), h3⟩
  · obtain ⟨h1, h2, h3⟩ := h.own s b' cap sz len hlv hk
    refine ⟨h1, fun o hob => ?_, h3⟩
    have hne : b' ≠ b := fun e => hn (.inr ⟨s, cap, sz, len, hlv, by rw [← e]; exact hk⟩)
    show lay c.G b cs b' o = none
    unfold lay; rw [if_neg hne]; exact h2 o hob
theorem Rep.ext_laid (h : Rep c m w) (q : Pa) {B b : Nat} {cs : List Value} (hB : w.heap.size ≤ B) (hb : B ≤ b) (w' : World) (hg : w.grownBy w' none) : Ext q c m w (c.laid b cs) m w' := by
  have ho : Out c.G b := h.com.out (Nat.le_trans hB hb)
  refine ⟨Le.laid ho, hg.os, hg.tape, hg.output, hg.size, fun b' hb' _ _ => hg.block b' hb' (by simp), fun b' hb' _ o => ?_, fun _ _ h => h, fun _ _ h => h, fun _ _ h => ⟨h.blk, h.anon, h.cell, h.ver, h.tok⟩, fun _ _ h => h⟩
  show lay c.G b cs b' o = c.G b' o
  unfold lay; rw [if_neg (by omega)]
end
end Go.Proofs.YtolhahlnccekcaaDoor.Abs
