/-
  Own helper theorems of no one function: results whose spare room the caller may use.
-/
import Derived.Test.YtolhahlnccekcaaDoorPwS3
namespace Go.Proofs.YtolhahlnccekcaaDoor.Abs
open Go.RowKit

section
variable {P : Program} {c c' : Conc} {m m' m0 m1 m2 : M} {w w' : World} {q p : Pa}
/-- a memory that tells less -/
theorem Rep.less (h : Rep c m' w) (hb : ∀ id vs, m2.blk id = some vs → m'.blk id = some vs ∧ m2.ver id = m'.ver id) (ht : ∀ id j, m2.tok id j = true → m'.tok id j = true) (hg : m2.gl = m'.gl)
    (h0 : ∀ id, FreshAt c id → (∀ off, m2.ver id off = 0) ∧ ∀ j, m2.tok id j = false) : Rep c m2 w ∧ ∀ b, Owned c m2 b → Owned c m' b := by
  have hbn : ∀ id, m2.blk id ≠ none → m'.blk id ≠ none ∧ m2.ver id = m'.ver id := by
    intro id hid
    obtain ⟨vs, hv⟩ : ∃ vs, m2.blk id = some vs := by cases hx : m2.blk id with | none => exact absurd hx hid | some vs => exact ⟨vs, rfl⟩
    obtain ⟨h1, h2⟩ := hb id vs hv
    exact ⟨by rw [h1]; simp, h2⟩
  have hlive : ∀ s, liveB m2 s = true → liveB m' s = true := by
    intro s hl
    cases s with
    | anon i j => exact ht i j hl
    | cell i off v =>
      obtain ⟨h1, vs, rows, h2, h3⟩ := liveB_cell hl
      obtain ⟨h4, h5⟩ := hb i vs h2
      rw [h5] at h1
      exact liveB_mk h1 h4 h3
  have hown : ∀ b, Owned c m2 b → Owned c m' b := by
    rintro b (⟨id, hid, hr⟩ | ⟨s, cap, sz, len, hl, hk⟩)
    · exact .inl ⟨id, (hbn id hid).1, hr⟩
    · exact .inr ⟨s, cap, sz, len, hlive s hl, hk⟩
  refine ⟨⟨h.com, fun id vs hv => ?_, fun id id' b hi hi' => h.inj id id' b (hbn id hi).1 (hbn id' hi').1, fun s b cap sz len hl hk => ?_, fun s s' b cap sz len cap' sz' len' hl hl' => h.ownInj s s' b cap sz len cap' sz' len' (hlive s hl) (hlive s' hl'), fun id off v hi hv => ?_, fun g => by rw [hg]; exact h.gl g, h0, h.base, fun b hl => ⟨(h.lit b hl).1, (h.lit b hl).2.1, fun ho => (h.lit b hl).2.2 (hown b ho)⟩⟩, hown⟩
  · obtain ⟨h1, h2⟩ := hb id vs hv
    obtain ⟨b, cs, t, k1, k2, k3, k4, k5⟩ := h.blk id vs h1
    exact ⟨b, cs, t, k1, k2, by rw [h2]; exact k3, k4, k5⟩
  · obtain ⟨k1, k2, k3, k4⟩ := h.own s b cap sz len (hlive s hl) hk
    exact ⟨k1, k2, fun id hid => k3 id (hbn id hid).1, k4⟩
  · obtain ⟨h1, h2⟩ := hbn id hi
    rw [h2] at hv
    exact h.ver id off v h1 hv
/-- a function's end, one stamp of its own lives on -/
theorem Rep.backT {id : Pa} {j : Nat} (h : Rep c m w) (hf : FreshU c q) (h' : Rep c' m' w') (ht : m'.tok id j = true) (hq : q <:+ id) :
    Rep c' ((m.back q m').tokset id j true) w' ∧ ∀ b, Owned c' ((m.back q m').tokset id j true) b → Owned c' m' b := by
  have hsub : ∀ i, q.isSuffixOf i = true → m.blk i = none ∧ (∀ off, m.ver i off = 0) ∧ ∀ j, m.tok i j = false := by
    intro i hi
    have hf' := hf i (List.isSuffixOf_iff_suffix.1 hi)
    exact ⟨h.fresh_blk hf', (h.ver0 i hf').1, (h.ver0 i hf').2⟩
  have hblk : ∀ i, ((m.back q m').tokset id j true).blk i = if q.isSuffixOf i then m.blk i else m'.blk i := fun _ => rfl
  have hver : ∀ i, ((m.back q m').tokset id j true).ver i = if q.isSuffixOf i then m.ver i else m'.ver i := fun _ => rfl
  have htok : ∀ i k, ((m.back q m').tokset id j true).tok i k = if i = id ∧ k = j then true else (if q.isSuffixOf i then m.tok i else m'.tok i) k := fun _ _ => rfl
  have hqs := List.isSuffixOf_iff_suffix.2 hq
  refine h'.less (fun i vs hv => ?_) (fun i k hk => ?_) rfl (fun i hi => ⟨fun off => ?_, fun k => ?_⟩)
  · rw [hblk] at hv
    rw [hver]
    cases hs : q.isSuffixOf i with
    | true => rw [if_pos hs, (hsub i hs).1] at hv; cases hv
    | false => rw [if_neg (by simp [hs])] at hv ⊢; exact ⟨hv, rfl⟩
  · rw [htok] at hk
    split at hk
    · rename_i e; rw [e.1, e.2]; exact ht
    · split at hk
      · rename_i hs; rw [(hsub i hs).2.2 k] at hk; cases hk
      · exact hk
  · rw [hver]
    split
    · rename_i hs; exact (hsub i hs).2.1 off
    · exact (h'.ver0 i hi).1 off
  · rw [htok, if_neg]
    · split
      · rename_i hs; exact (hsub i hs).2.2 k
      · exact (h'.ver0 i hi).2 k
    · rintro ⟨rfl, rfl⟩
      rw [(h'.ver0 i hi).2 k] at ht; cases ht
/-- a stamp is given -/
theorem Rep.give (h : Rep c m1 w) (hf : FreshAt c p) (hX : Ext p c m0 w c m1 w) (info : Info)
    (hin : ∀ b cap sz len, info = .arr b cap sz len → (∃ cs t, Blk w b t cs ∧ cs.size = cap * sz) ∧ (∀ o, len * sz ≤ o → c.G b o = none) ∧ (∀ id, m1.blk id ≠ none → c.ρ id ≠ some b) ∧ len ≤ cap ∧ 0 < sz ∧
      (∀ s cap' sz' len', liveB m1 s = true → c.κ s ≠ some (.arr b cap' sz' len')) ∧ Owned c m0 b ∧ ¬ c.lit b) :
    ∃ c', c'.κ (.anon p 0) = some info ∧ Le c c' ∧ Rep c' (m1.tokset p 0 true) w ∧ Ext p c m0 w c' (m1.tokset p 0 true) w := by
  obtain ⟨c', hc'⟩ : ∃ c' : Conc, c' = { c with κ := fun s => if s = .anon p 0 then some info else c.κ s } := ⟨_, rfl⟩
  have hκ : ∀ s, c'.κ s = if s = .anon p 0 then some info else c.κ s := by intro s; rw [hc']
  have hρ : c'.ρ = c.ρ := by rw [hc']
  have hG : c'.G = c.G := by rw [hc']
  have hlit : c'.lit = c.lit := by rw [hc']
  have hbase : c'.base = c.base := by rw [hc']
  have hle : Le c c' := ⟨hbase, fun b h => by rw [hlit]; exact h, fun i b h => by rw [hρ]; exact h, fun s i hk => by
    rw [hκ]; split
    · rename_i e; rw [e, hf.2.1 0] at hk; cases hk
    · exact hk, fun b o v h => by rw [hG]; exact h⟩
  clear hc'
  have htok : ∀ i j, (m1.tokset p 0 true).tok i j = if i = p ∧ j = 0 then true else m1.tok i j := fun _ _ => rfl
  have hlive : ∀ s, s ≠ .anon p 0 → liveB (m1.tokset p 0 true) s = true → liveB m1 s = true := by
    intro s hne hl
    cases s with
    | anon i j =>
      have hl' : (m1.tokset p 0 true).tok i j = true := hl
      rw [htok, if_neg (by rintro ⟨rfl, rfl⟩; exact hne rfl)] at hl'
      exact hl'
    | cell i o v => exact hl
  have hold : ∀ s b cap sz len, s ≠ .anon p 0 → c'.κ s = some (.arr b cap sz len) → c.κ s = some (.arr b cap sz len) := by
    intro s b cap sz len hne hk
    rw [hκ, if_neg hne] at hk; exact hk
  have hown : ∀ b, Owned c' (m1.tokset p 0 true) b → Owned c m0 b ∨ Owned c m1 b := by
    rintro b (⟨id, hid, hr⟩ | ⟨s, cap, sz, len, hl, hk⟩)
    · exact .inr (.inl ⟨id, hid, by rw [← hρ]; exact hr⟩)
    · by_cases hs : s = .anon p 0
      · rw [hκ, if_pos hs] at hk
        injection hk with hk
        exact .inl (hin _ _ _ _ hk).2.2.2.2.2.2.1
      · exact .inr (.inr ⟨s, cap, sz, len, hlive s hs hl, hold _ _ _ _ _ hs hk⟩)
  refine ⟨c', by rw [hκ, if_pos rfl], hle, ?_, ?_⟩
  · refine ⟨by rw [hG]; exact h.com, fun id vs hv => ?_, fun id id' b hi hi' hr hr' => h.inj id id' b hi hi' (by rw [← hρ]; exact hr) (by rw [← hρ]; exact hr'), fun s b cap sz len hl hk => ?_, fun s s' b cap sz len cap' sz' len' hl hl' hk hk' => ?_, fun id off v hb hv => ?_, fun g => (h.gl g).mono hle, fun id hid => ?_, by rw [hbase]; exact h.base, fun b hb => ?_⟩
    · obtain ⟨b, cs, t', k1, k2, k3, k4, k5⟩ := h.blk id vs hv
      exact ⟨b, cs, t', by rw [hρ]; exact k1, k2, k3.mono hle, by rw [hG]; exact k4, k5⟩
    · by_cases hs : s = .anon p 0
      · rw [hκ, if_pos hs] at hk
        injection hk with hk
        obtain ⟨k1, k2, k3, k4, k5, _⟩ := hin _ _ _ _ hk
        exact ⟨k1, fun o ho => by rw [hG]; exact k2 o ho, fun id hid => by rw [hρ]; exact k3 id hid, k4, k5⟩
      · obtain ⟨k1, k2, k3, k4⟩ := h.own s b cap sz len (hlive s hs hl) (hold _ _ _ _ _ hs hk)
        exact ⟨k1, fun o ho => by rw [hG]; exact k2 o ho, fun id hid => by rw [hρ]; exact k3 id hid, k4⟩
    · by_cases hs : s = .anon p 0 <;> by_cases hs' : s' = .anon p 0
      · rw [hs, hs']
      · rw [hκ, if_pos hs] at hk
        injection hk with hk
        exact absurd (hold _ _ _ _ _ hs' hk') ((hin _ _ _ _ hk).2.2.2.2.2.1 s' _ _ _ (hlive s' hs' hl'))
      · rw [hκ, if_pos hs'] at hk'
        injection hk' with hk'
        exact absurd (hold _ _ _ _ _ hs hk) ((hin _ _ _ _ hk').2.2.2.2.2.1 s _ _ _ (hlive s hs hl))
      · exact h.ownInj s s' b cap sz len cap' sz' len' (hlive s hs hl) (hlive s' hs' hl') (hold _ _ _ _ _ hs hk) (hold _ _ _ _ _ hs' hk')
    · rw [hκ, if_neg (by rintro ⟨⟩)]
      exact h.ver id off v hb hv
    · have hf' := hid.anti hle
      refine ⟨(h.ver0 id hf').1, fun j => ?_⟩
      rw [htok, if_neg]
      · exact (h.ver0 id hf').2 j
      · rintro ⟨rfl, rfl⟩
        have := hid.2.1 0
        rw [hκ, if_pos rfl] at this; cases this
    · rw [hlit] at hb
      refine ⟨by rw [hbase]; exact (h.lit b hb).1, (h.lit b hb).2.1, ?_⟩
      rintro (⟨id, hid, hr⟩ | ⟨s, cap, sz, len, hl, hk⟩)
      · exact (h.lit b hb).2.2 (.inl ⟨id, hid, by rw [← hρ]; exact hr⟩)
      · by_cases hs : s = .anon p 0
        · rw [hκ, if_pos hs] at hk
          injection hk with hk
          exact (hin _ _ _ _ hk).2.2.2.2.2.2.2 hb
        · exact (h.lit b hb).2.2 (.inr ⟨s, cap, sz, len, hlive s hs hl, hold _ _ _ _ _ hs hk⟩)
  · refine ⟨hX.le.trans hle, hX.os, hX.tape, hX.output, hX.size, hX.heap, fun b hb ho o => by rw [hG], fun b hb ho => (hown b ho).elim (fun x => x) (fun x => hX.own b hb x), fun id hid hf' => ?_, fun id hid hb => ?_, fun b hb hl => hX.lits b hb (by rw [hlit] at hl; exact hl)⟩
    · have h1 := hX.fresh id hid hf'
      refine ⟨by rw [hρ]; exact h1.1, fun i => ?_, fun off v => ?_⟩
      · rw [hκ, if_neg]
        · exact h1.2.1 i
        · intro e; injection e with e1 e2; exact hid (e1 ▸ List.suffix_refl _)
      · rw [hκ, if_neg (by rintro ⟨⟩)]; exact h1.2.2 off v
    · have h1 := hX.keep id hid hb
      refine ⟨h1.blk, fun i => ?_, fun off v => ?_, h1.ver, fun j => ?_⟩
      · rw [hκ, if_neg]
        · exact h1.anon i
        · intro e; injection e with e1 e2; exact hid (e1 ▸ List.suffix_refl _)
      · rw [hκ, if_neg (by rintro ⟨⟩)]; exact h1.cell off v
      · rw [htok, if_neg]
        · exact h1.tok j
        · rintro ⟨rfl, _⟩; exact hid (List.suffix_refl _)
/-- what a cell owns is taken out of it -/
theorem Rep.take {id : Pa} {off : Nat} {cs : List V} {rows : List (List V)} (h : Rep c m w) (hf : FreshAt c p) (hv : m.blk id = some cs) (ho : cs[off]? = some (.list .self rows)) :
    ∃ c', Le c c' ∧ Rep c' ((m.unself id off).tokset p 0 true) w ∧ Ext p c m w c' ((m.unself id off).tokset p 0 true) w ∧ ∀ x, CR c [.list (.st (.cell id off (m.ver id off))) rows] [x] → CR c' [.list (.st (.anon p 0)) rows] [x] := by
  obtain ⟨h1, h2, h3⟩ := h.unself id off
  have hlive : liveB m (.cell id off (m.ver id off)) = true := liveB_mk rfl hv ho
  obtain ⟨b, vals, t, k1, k2, k3, k4, k5⟩ := h.blk id cs hv
  have hl : (lds (m.ver id) id cs)[off]? = some (.list (.st (.cell id off (m.ver id off))) rows) := by
    unfold lds
    rw [List.getElem?_mapIdx, ho]; rfl
  obtain ⟨x0, _, hx0⟩ := k3.get hl
  obtain ⟨a, cap, es, sz, _, g1, g2, g3, g4, g5, g6, g7, g8, g9⟩ := hx0.inv_list
  obtain ⟨info, hinfo⟩ : ∃ info, c.κ (.cell id off (m.ver id off)) = some info := by
    rcases g9 with ⟨h1, _⟩ | ⟨b, h1, _⟩
    · exact ⟨_, h1⟩
    · exact ⟨_, h1⟩
  obtain ⟨c', e1, e2, e3, e4⟩ := h1.give (m0 := m) hf (h2 p) info (fun b cap sz len hi => by
    subst hi
    obtain ⟨q1, q2, q3, q4, q5⟩ := h.own _ b cap sz len hlive hinfo
    have hbk : ∀ i, (m.unself id off).blk i ≠ none → m.blk i ≠ none := by
      intro i hi
      unfold M.unself at hi
      rw [hv] at hi
      simp only [ho] at hi
      have hi' : (if i = id then some (cs.set off (.list .none rows)) else m.blk i) ≠ none := hi
      by_cases hii : i = id
      · subst hii; rw [hv]; simp
      · rw [if_neg hii] at hi'; exact hi'
    refine ⟨q1, q2, fun i hi => q3 i (hbk i hi), q4, q5, fun s cap' sz' len' hs hk => ?_, .inr ⟨_, _, _, _, hlive, hinfo⟩, fun hlb => (h.lit b hlb).2.2 (.inr ⟨_, _, _, _, hlive, hinfo⟩)⟩
    obtain ⟨s1, s2⟩ := h3 s hs
    exact s2 (m.ver id off) (h.ownInj _ _ _ _ _ _ _ _ _ s1 hlive hk hinfo))
  refine ⟨c', e2, e3, e4, fun x hx => ?_⟩
  obtain ⟨a, cap, es, sz, rfl, g1, g2, g3, g4, g5, g6, g7, g8, g9⟩ := (hx.mono e2).inv_list
  refine .list g1 g2 g3 g4 g5 g6 g7 g8 ?_ .nil
  have hk := e2.κ _ _ hinfo
  rcases g9 with ⟨h1, h2⟩ | ⟨b, h1, h2⟩
  · exact .inl ⟨by rw [e1, ← hk, h1], h2⟩
  · exact .inr ⟨b, by rw [e1, ← hk, h1], h2⟩
theorem Rep.stamped (h : Rep c m w) (hf : FreshAt c p) : ∃ c', Le c c' ∧ Rep c' (m.tokset p 0 true) w ∧ Ext p c m w c' (m.tokset p 0 true) w ∧ ∀ rows x, CR c [.list .exact rows] [x] → CR c' [.list (.st (.anon p 0)) rows] [x] := by
  obtain ⟨c', e1, e2, e3, e4⟩ := h.give (m0 := m) hf (.refl p c m w) .full (fun _ _ _ _ h => by cases h)
  refine ⟨c', e2, e3, e4, fun rows x hx => ?_⟩
  obtain ⟨a, cap, es, sz, rfl, g1, g2, g3, g4, g5, g6, g7, g8, g9⟩ := (hx.mono e2).inv_list
  exact .list g1 g2 g3 g4 g5 g6 g7 g8 (.inl ⟨e1, g9.1⟩) .nil
theorem load_agg {T n : Nat} {id : Pa} {cs : List V} {x : Value} (ha : aggT P T = some true) (hn : sizeT P T = some n) (hl : cs.length = n) (h : Rep c m w) (hv : m.blk id = some cs) (hx : CR c [.ptr id 0] [x]) :
    ∃ vals : List Value, (Instr.loadAt T x).run P w = .ok (.agg vals.toArray) w ∧ CR c (lds (m.ver id) id cs) vals ∧ (∀ u ∈ vals, u.oneCell' = true) ∧ ∃ b, x = .pointer (some ⟨b, 0, none⟩) := by
  obtain ⟨b, hr, rfl⟩ := hx.inv_ptr
  obtain ⟨b', vals, t, hr', hB, k1, k2, k3⟩ := h.blk id cs hv
  rw [hr] at hr'; injection hr' with e; subst e
  have hlen : vals.toList.length = n := by rw [k1.len, lds_length, hl]
  have hld := run_loadCells_list (P := P) w ⟨b, 0, none⟩ vals.toList (fun j u hj => by
    rw [addr_add, hB.cell]
    simpa using hj)
  rw [hlen] at hld
  exact ⟨vals.toList, by simp [Instr.loadAt, Instr.sureAddr, loadVar, run_aggT ha, run_sizeT hn, hld], k1, k3, b, rfl⟩
theorem results_tmp {fn : Func} {t : Nat} (hr : fn.results.toList = [.tmp t]) (tmps : Array Value) (w : World) : (results fn tmps).run P w = .ok (tmps.getD t undef) w := by
  have he : results fn tmps = (do
      let vs ← fn.results.mapM (resSem tmps)
      pure (if h : vs.size = 1 then vs[0] else .tuple vs)) := by
    unfold results
    congr 1
  rw [he]
  simp [Array.mapM_eq_mapM_toList, hr, resSem]
theorem results_cell {fn : Func} {t T : Nat} {b : Nat} {z : Value} (hr : fn.results.toList = [.cell t T]) (tmps : Array Value) (w : World) (ht : tmps.getD t undef = .pointer (some ⟨b, 0, none⟩)) (hz : (Instr.loadAt T (.pointer (some ⟨b, 0, none⟩))).run P w = .ok z w) : (results fn tmps).run P w = .ok z w := by
  have he : results fn tmps = (do
      let vs ← fn.results.mapM (resSem tmps)
      pure (if h : vs.size = 1 then vs[0] else .tuple vs)) := by
    unfold results
    congr 1
  have hz' : (loadVar T ⟨b, 0, none⟩).run P w = .ok z w := by simpa [Instr.loadAt, Instr.sureAddr] using hz
  rw [he]
  simp [Array.mapM_eq_mapM_toList, hr, resSem, ht, asAddr, hz']
/-- where an owned result comes from -/
inductive Src (P : Program) (rs : List ResultVar) (E : Env) (m : M) (q : Pa) (k : Nat) : Pa → Nat → V → Prop where
  | exact {t rows} : rs = [.tmp t] → E t = .list .exact rows → Src P rs E m q k (k :: q) 0 (.list (.st (.anon (k :: q) 0)) rows)
  | mine {t rows id j} : rs = [.tmp t] → E t = .list (.st (.anon id j)) rows → m.tok id j = true → Src P rs E m q k id j (.list (.st (.anon id j)) rows)
  | cell {t T b cs off rows} : rs = [.cell t T] → E t = .ptr b 0 → q <:+ b → m.blk b = some cs → aggT P T = some true → sizeT P T = some cs.length → cs[off]? = some (.list .self rows) → Src P rs E m q k (k :: q) 0 (.agg ((cs.map V.shared).set off (.list (.st (.anon (k :: q) 0)) rows)))
theorem lds_shared {ver : Nat → Nat} {id : Pa} {vs : List V} : (lds ver id vs).map V.shared = vs.map V.shared := by
  unfold lds
  apply List.ext_getElem?
  intro i
  rw [List.getElem?_map, List.getElem?_map, List.getElem?_mapIdx]
  cases vs[i]? with
  | none => rfl
  | some v => simp [shared_ld]
theorem Src.ok {fn : Func} {E : Env} {a : Act} {N k : Nat} {id : Pa} {j : Nat} {v : V} (hs : Src P fn.results.toList E m' q k id j v) (h : Rep c' m' w) (hE : EnvOk c' E a N) (hf : FreshK c' q k) (mb : M) :
    ∃ c1 m1 x, (results fn a.tmps).run P w = .ok x w ∧ Rep c1 m1 w ∧ Ext q c' m' w c1 m1 w ∧ m1.tok id j = true ∧ mb.back q m1 = mb.back q m' ∧ CR c1 [v] [x] := by
  have hp : FreshAt c' (k :: q) := hf.at_.at_
  generalize hrs : fn.results.toList = rs at hs
  cases hs with
  | @exact t rows e1 e2 =>
    subst e1
    obtain ⟨c1, _, k2, k3, k4⟩ := h.stamped hp
    have hx := hE.at_ t
    rw [e2] at hx
    exact ⟨c1, _, _, results_tmp hrs a.tmps w, k2, k3.up, by show (if (k :: q) = (k :: q) ∧ 0 = 0 then true else _) = true; rw [if_pos ⟨rfl, rfl⟩], back_tokset (suf_cons suf_self), k4 _ _ hx⟩
  | @mine t rows id j e1 e2 e3 =>
    subst e1
    have hx := hE.at_ t
    rw [e2] at hx
    exact ⟨c', m', _, results_tmp hrs a.tmps w, h, .refl q c' m' w, e3, rfl, hx⟩
  | @cell t T b cs off rows e1 e2 e3 e4 e5 e6 e7 =>
    subst e1
    have hx := hE.at_ t
    rw [e2] at hx
    obtain ⟨vals, l1, l2, l3, bb, l4⟩ := load_agg e5 e6 rfl h e4 hx
    obtain ⟨c1, k1, k2, k3, k4⟩ := h.take hp e4 e7
    rw [l4] at l1
    refine ⟨c1, _, .agg vals.toArray, results_cell hrs a.tmps w l4 l1, k2, k3.up, by show (if (k :: q) = (k :: q) ∧ 0 = 0 then true else _) = true; rw [if_pos ⟨rfl, rfl⟩], ?_, ?_⟩
    · rw [back_tokset (suf_cons suf_self)]
      unfold M.unself
      rw [e4]
      simp only [e7]
      exact back_set e3
    · have hld : (lds (m'.ver b) b cs)[off]? = some (.list (.st (.cell b off (m'.ver b off))) rows) := by
        unfold lds
        rw [List.getElem?_mapIdx, e7]; rfl
      obtain ⟨y, hy, hy2⟩ := l2.get hld
      have h3 := (shareds_ok l2).mono k1
      rw [lds_shared] at h3
      have h4 := h3.set off (k4 y hy2)
      have h5 : vals.set off y = vals := by
        apply List.ext_getElem?
        intro i
        rw [List.getElem?_set]
        split
        · rename_i e
          subst e
          split
          · exact hy.symm
          · rename_i hlt; rw [List.getElem?_eq_none (by omega)] at hy; cases hy
        · rfl
      rw [h5] at h4
      exact .agg h4 l3 .nil
/-- a function whose result's spare room is handed on -/
theorem SC_ofO {f : FuncId} {fn : Func} {body : Code} {args : List V} {R : V → M → Prop} (hf : P.funcs[f]? = some fn) (hb : fn.body = some body) (hen : ∀ (xs : Array Value) (w : World), (callFunc f xs).run P w = .ok (.enter f xs) w)
    {N : Nat} (hN : fn.ntmps = N) (hfit : fits N body = true)
    (h : SW P N q body 0 (ini args) m fun e k E' m' => (e = .ret ∨ e = .normal) ∧ ∃ id j v, q <:+ id ∧ Src P fn.results.toList E' m' q k id j v ∧ R v ((m.back q m').tokset id j true)) : SC P f args q m R := by
  intro c xs w h1 h2 h3
  refine .inl ⟨hen _ w, ?_⟩
  subst hN
  have hini := ini_ok h2 fn.ntmps
  refine calls_of_wp hf hb ?_
  rw [List.size_toArray]
  refine wp_mono (h hfit c _ w h1 hini h3.sub) ?_
  intro e a' w' hp
  obtain ⟨c', k', E', m', ⟨he, id, j, v, hid, hsrc, hR⟩, g2, g3, g4, g5, g6, g7⟩ := hp
  obtain ⟨c1, m1, x, r1, r2, r3, r4, r5, r6⟩ := hsrc.ok g2 g4 g5 m
  obtain ⟨hback, hown⟩ := h1.backT h3 r2 r4 hid
  have g := g3.trans r3
  rw [r5] at hback hown
  have hX : Ext q c m w c1 ((m.back q m').tokset id j true) w' := by
    refine ⟨g.le, g.os, g.tape, g.output, g.size, g.heap, g.book, fun b hb ho => g.own b hb (hown b ho), g.fresh, fun i hi hb => ?_, g.lits⟩
    have hbl := (g.keep i hi hb).back (m := m) hi
    rw [r5] at hbl
    refine ⟨hbl.blk, hbl.anon, hbl.cell, hbl.ver, fun k => ?_⟩
    show (if i = id ∧ k = j then true else (m.back q m').tok i k) = false
    rw [if_neg]
    · exact hbl.tok k
    · rintro ⟨rfl, _⟩; exact hi hid
  have hdone : a'.defers = [] ∧ ∃ v, (results fn a'.tmps).run P w' = .ok v w' ∧ PostC q c m w R (.returned v) w' :=
    ⟨g6, x, r1, x, c1, v, _, rfl, hR, hback, hX, r6⟩
  rcases he with rfl | rfl
  · exact hdone
  · exact hdone
end
end Go.Proofs.YtolhahlnccekcaaDoor.Abs
namespace Go.Proofs.YtolhahlnccekcaaDoor.Abs
open Go.RowKit
section
variable {P : Program} {T : TypeId} {x y : Operand} {C : V → Prop}
end
end Go.Proofs.YtolhahlnccekcaaDoor.Abs
