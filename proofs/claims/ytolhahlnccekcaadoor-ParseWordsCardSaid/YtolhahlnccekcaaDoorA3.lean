/-
  Own helper theorems of no one function: new blocks, stores and loads, seen from above.
-/
import Derived.Test.YtolhahlnccekcaaDoorA2
namespace Go.Proofs.YtolhahlnccekcaaDoor.Abs
open Go.RowKit

def M.set (m : M) (id : Pa) (vs : List V) : M := { m with blk := fun i => if i = id then some vs else m.blk i }
def M.bump (m : M) (id : Pa) (off : Nat) : M := { m with ver := fun i o => if i = id ∧ o = off then m.ver i o + 1 else m.ver i o }
def M.tokset (m : M) (id : Pa) (j : Nat) (b : Bool) : M := { m with tok := fun i k => if i = id ∧ k = j then b else m.tok i k }

/-- a value as a variable holds it, whoever else holds it -/
def V.raw0 : V → V
  | .list .exact rows => .list .self rows
  | .list (.st _) [] => .list .self []
  | .list _ rows => .list .none rows
  | v => v

section
variable {c c' : Conc} {m : M} {w w' : World}

theorem V.raw0_one {v : V} {x : Value} (hl : Le c c') {s : Stamp} (hk : c'.κ s = some .full) (h : CR c [v] [x]) : CR c' [v.raw0.ld s] [x] := by
  have h' := h.mono hl
  cases v with
  | list o rows =>
    obtain ⟨a, cap, es, sz, rfl, h1, h2, hz, h3, h4, h5, h6, hc, h7⟩ := h'.inv_list
    cases o with
    | none => exact .list h1 h2 hz h3 h4 h5 h6 hc trivial .nil
    | exact => exact .list h1 h2 hz h3 h4 h5 h6 hc (.inl ⟨hk, h7.1⟩) .nil
    | self => exact h7.elim
    | st s' =>
      cases rows with
      | nil =>
        have hc0 : cap = 0 := by
          rcases h7 with ⟨_, h⟩ | ⟨b, _, _, h⟩
          · exact h
          · simp at h
        subst hc0
        exact .list h1 h2 hz h3 h4 h5 h6 hc (.inl ⟨hk, rfl⟩) .nil
      | cons r rows => exact .list h1 h2 hz h3 h4 h5 h6 hc trivial .nil
  | _ => simpa [V.raw0, V.ld] using h'
theorem lds_raw0 {vs : List V} {cs : List Value} (hl : Le c c') (h : CR c vs cs) {f : Nat → Stamp} (hk : ∀ n, c'.κ (f n) = some .full) : CR c' ((vs.map V.raw0).mapIdx fun off v => v.ld (f off)) cs := by
  induction vs generalizing cs f with
  | nil => rw [h.inv_nil]; exact .nil
  | cons v vs ih =>
    obtain ⟨x, xs, rfl, h1, h2⟩ := h.uncons
    rw [List.map_cons, List.mapIdx_cons]
    exact (V.raw0_one hl (hk 0) h1).cons (ih h2 (f := fun n => f (n + 1)) (fun n => hk (n + 1)))

theorem liveB_cell {id : Pa} {off v : Nat} (h : liveB m (.cell id off v) = true) : m.ver id off = v ∧ ∃ vs rows, m.blk id = some vs ∧ vs[off]? = some (.list .self rows) := by
  simp only [liveB, Bool.and_eq_true, beq_iff_eq] at h
  refine ⟨h.1, ?_⟩
  have h2 := h.2
  split at h2
  · rename_i vs hv
    split at h2
    · rename_i rows hr; exact ⟨vs, rows, hv, hr⟩
    · cases h2
  · cases h2
theorem liveB_mk {id : Pa} {off v : Nat} {vs : List V} {rows : List (List V)} (h1 : m.ver id off = v) (h2 : m.blk id = some vs) (h3 : vs[off]? = some (.list .self rows)) : liveB m (.cell id off v) = true := by
  simp [liveB, h1, h2, h3]

/-- a new block of one's own -/
def Conc.new (c : Conc) (q : Pa) (b : Nat) : Conc :=
  { c with ρ := fun id => if id = q then some b else c.ρ id, κ := fun s => match s with | .cell id off v => if id = q then some .full else c.κ (.cell id off v) | s => c.κ s }
theorem Le.new {q : Pa} {b : Nat} (hf : FreshAt c q) : Le c (c.new q b) := by
  refine ⟨rfl, fun _ h => h, fun id b' h => ?_, fun s i h => ?_, fun _ _ _ h => h⟩
  · show (if id = q then some b else c.ρ id) = some b'
    split
    · rename_i e; subst e; rw [hf.1] at h; cases h
    · exact h
  · cases s with
    | anon id j => exact h
    | cell id off v =>
      show (if id = q then some Info.full else c.κ (.cell id off v)) = some i
      split
      · rename_i e; subst e; rw [hf.2.2] at h; cases h
      · exact h

theorem Rep.new (h : Rep c m w) {q : Pa} (hf : FreshAt c q) {vs : List V} {cs : List Value} (hc : CR c vs cs) (h1 : ∀ u ∈ cs, u.oneCell' = true) (t : TypeId) :
    Rep { c.new q w.heap.size with κ := fun s => match s with | .cell id off v => if id = q ∧ v = 0 then some .full else c.κ (.cell id off v) | s => c.κ s } (m.set q (vs.map V.raw0)) (w.alloc (.cells cs.toArray t)) ∧
    Ext q c m w { c.new q w.heap.size with κ := fun s => match s with | .cell id off v => if id = q ∧ v = 0 then some .full else c.κ (.cell id off v) | s => c.κ s } (m.set q (vs.map V.raw0)) (w.alloc (.cells cs.toArray t)) := by
  have hv0 := (h.ver0 q hf).1
  obtain ⟨c', hc'⟩ : ∃ c' : Conc, c' = { c.new q w.heap.size with κ := fun s => match s with | .cell id off v => if id = q ∧ v = 0 then some .full else c.κ (.cell id off v) | s => c.κ s } := ⟨_, rfl⟩
  rw [← hc']
  have hρ : ∀ id, c'.ρ id = if id = q then some w.heap.size else c.ρ id := by intro id; rw [hc']; rfl
  have hκa : ∀ id j, c'.κ (.anon id j) = c.κ (.anon id j) := by intro id j; rw [hc']
  have hκc : ∀ id off v, c'.κ (.cell id off v) = if id = q ∧ v = 0 then some .full else c.κ (.cell id off v) := by intro id off v; rw [hc']
  have hG : c'.G = c.G := by rw [hc']; rfl
  have hbase : c'.base = c.base := by rw [hc']; rfl
  have hlit : c'.lit = c.lit := by rw [hc']; rfl
  clear hc'
  have hle : Le c c' := by
    refine ⟨hbase, fun b h => by rw [hlit]; exact h, fun id b h => ?_, fun s i h => ?_, fun b o v h => by rw [hG]; exact h⟩
    · rw [hρ]; split
      · rename_i e; subst e; rw [hf.1] at h; cases h
      · exact h
    · cases s with
      | anon id j => rw [hκa]; exact h
      | cell id off v =>
        rw [hκc]; split
        · rename_i e; obtain ⟨rfl, _⟩ := e; rw [hf.2.2] at h; cases h
        · exact h
  have hnb := h.fresh_blk hf
  have hgr : w.grownBy (w.alloc (.cells cs.toArray t)) none := galloc (grefl w none) _
  have hcom : Com (w.alloc (.cells cs.toArray t)) c'.G := by rw [hG]; exact h.com.alloc _
  have hset : ∀ id, (m.set q (vs.map V.raw0)).blk id = if id = q then some (vs.map V.raw0) else m.blk id := fun id => rfl
  have harr : ∀ s b cap sz len, c'.κ s = some (.arr b cap sz len) → c.κ s = some (.arr b cap sz len) := by
    intro s b cap sz len hk
    cases s with
    | anon id j => rw [hκa] at hk; exact hk
    | cell id off v =>
      rw [hκc] at hk
      split at hk
      · cases hk
      · exact hk
  have hlive : ∀ s b cap sz len, liveB (m.set q (vs.map V.raw0)) s = true → c.κ s = some (.arr b cap sz len) → liveB m s = true := by
    intro s b cap sz len hl hk
    cases s with
    | anon id j => exact hl
    | cell id off v =>
      obtain ⟨h1, xs, rows, h2, h3⟩ := liveB_cell hl
      rw [hset] at h2
      split at h2
      · rename_i e; subst e; rw [hf.2.2] at hk; cases hk
      · exact liveB_mk h1 h2 h3
  have hown : ∀ b, b < w.heap.size → Owned c' (m.set q (vs.map V.raw0)) b → Owned c m b := by
    intro b hb ho
    rcases ho with ⟨id, hid, hr⟩ | ⟨s, cap, sz, len, hl, hk⟩
    · rw [hset] at hid; rw [hρ] at hr
      split at hr
      · injection hr with hr; omega
      · rename_i e; rw [if_neg e] at hid; exact .inl ⟨id, hid, hr⟩
    · have k1 := harr _ _ _ _ _ hk
      exact .inr ⟨s, cap, sz, len, hlive _ _ _ _ _ hl k1, k1⟩
  refine ⟨⟨hcom, fun id xs hx => ?_, fun id id' b hb hb' hr hr' => ?_, fun s b cap sz len hl hk => ?_, fun s s' b cap sz len cap' sz' len' hl hl' hk hk' => ?_, fun id off v hb hv => ?_, fun g => (h.gl g).mono hle, fun id hfr => h.ver0 id (hfr.anti hle), by rw [hbase]; exact Nat.le_trans h.base hgr.size, fun b hb => by
    rw [hlit] at hb; rw [hbase]
    obtain ⟨l1, l2, l3⟩ := h.lit b hb
    exact ⟨l1, Nat.lt_of_lt_of_le l2 hgr.size, fun ho => l3 (hown b l2 ho)⟩⟩, ?_⟩
  · rw [hset] at hx
    split at hx
    · rename_i e
      subst e
      injection hx with hx
      subst hx
      refine ⟨w.heap.size, cs.toArray, t, by rw [hρ, if_pos rfl], Blk.new _ _ _, ?_, by rw [hG]; exact h.com.out (Nat.le_refl _), by simpa using h1⟩
      exact lds_raw0 hle hc (fun n => by rw [hκc, if_pos ⟨rfl, hv0 n⟩])
    · rename_i e
      obtain ⟨b, ys, t', hr, hB, k1, k2, k3⟩ := h.blk id xs hx
      exact ⟨b, ys, t', by rw [hρ, if_neg e]; exact hr, hB.alloc _, k1.mono hle, by rw [hG]; exact k2, k3⟩
  · rw [hset] at hb hb'
    rw [hρ] at hr hr'
    by_cases e1 : id = q <;> by_cases e2 : id' = q
    · rw [e1, e2]
    · rw [if_pos e1] at hr; rw [if_neg e2] at hr' hb'
      injection hr with hr; have := h.lt hb' hr'; omega
    · rw [if_neg e1] at hr hb; rw [if_pos e2] at hr'
      injection hr' with hr'; have := h.lt hb hr; omega
    · rw [if_neg e1] at hr hb; rw [if_neg e2] at hr' hb'
      exact h.inj id id' b hb hb' hr hr'
  · have hk0 := harr _ _ _ _ _ hk
    obtain ⟨⟨xs, t', hB, hs⟩, k1, k2, k3⟩ := h.own s b cap sz len (hlive _ _ _ _ _ hl hk0) hk0
    refine ⟨⟨xs, t', hB.alloc _, hs⟩, by rw [hG]; exact k1, fun id hid hr => ?_, k3⟩
    rw [hset] at hid; rw [hρ] at hr
    split at hr
    · injection hr with hr; have := hB.lt; omega
    · rename_i e; rw [if_neg e] at hid; exact k2 id hid hr
  · have k1 := harr _ _ _ _ _ hk
    have k2 := harr _ _ _ _ _ hk'
    exact h.ownInj s s' b cap sz len cap' sz' len' (hlive _ _ _ _ _ hl k1) (hlive _ _ _ _ _ hl' k2) k1 k2
  · rw [hκc]
    have hv' : m.ver id off < v := hv
    rw [if_neg (by rintro ⟨_, rfl⟩; omega)]
    rw [hset] at hb
    by_cases e : id = q
    · rw [e]; exact hf.2.2 off v
    · rw [if_neg e] at hb; exact h.ver id off v hb hv'
  · refine ⟨hle, rfl, rfl, rfl, hgr.size, fun b hb _ _ => hgr.block b hb (by simp), fun b _ _ o => by rw [hG], fun b hb ho => ?_, fun id hid hfr => ?_, fun id hid hbk => ?_, fun b _ hb => by rw [hlit] at hb; exact hb⟩
    · exact hown b hb ho
    · have hne : id ≠ q := by rintro rfl; exact hid (List.suffix_refl _)
      exact ⟨by rw [hρ, if_neg hne]; exact hfr.1, fun i => by rw [hκa]; exact hfr.2.1 i, fun off v => by rw [hκc, if_neg (by rintro ⟨e, _⟩; exact hne e)]; exact hfr.2.2 off v⟩
    · have hne : id ≠ q := by rintro rfl; exact hid (List.suffix_refl _)
      exact ⟨by rw [hset, if_neg hne]; exact hbk.blk, fun i => by rw [hκa]; exact hbk.anon i, fun off v => by rw [hκc, if_neg (by rintro ⟨e, _⟩; exact hne e)]; exact hbk.cell off v, hbk.ver, hbk.tok⟩
end
end Go.Proofs.YtolhahlnccekcaaDoor.Abs
