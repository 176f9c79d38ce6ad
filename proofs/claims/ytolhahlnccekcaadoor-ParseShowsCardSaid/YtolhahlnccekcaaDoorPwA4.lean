/-
  Own helper theorems of no one function: stores into own blocks, seen from above.
-/
import Derived.Test.YtolhahlnccekcaaDoorPwA1
namespace Go.Proofs.YtolhahlnccekcaaDoor.Abs
open Go.RowKit

section
variable {c c' : Conc} {m m' : M} {w w' : World}

theorem lds_get {f : Nat → Nat} {id : Pa} {vs : List V} {off : Nat} {v : V} (h : vs[off]? = some v) : (lds f id vs)[off]? = some (v.ld (.cell id off (f off))) := by
  simp [lds, List.getElem?_mapIdx, h]
theorem lds_length {f : Nat → Nat} {id : Pa} {vs : List V} : (lds f id vs).length = vs.length := by simp [lds]
theorem lds_set {f : Nat → Nat} {id : Pa} {vs : List V} {off : Nat} {v : V} : lds f id (vs.set off v) = (lds f id vs).set off (v.ld (.cell id off (f off))) := by
  apply List.ext_getElem?
  intro i
  by_cases h : i = off
  · subst h
    by_cases hl : i < vs.length
    · simp [lds, hl]
    · simp [lds, hl]
  · have h' : ¬ off = i := fun e => h e.symm
    simp [lds, List.getElem?_mapIdx, h']

/-- one own block is written -/
theorem Rep.block (h : Rep c m w) {q id : Pa} {b : Nat} {t : TypeId} {cs cs' : Array Value} {vs vs' : List V} (hv : m.blk id = some vs) (hr : c.ρ id = some b) (hB : Blk w b t cs) (hB' : Blk w' b t cs') (hg : w.grownBy w' (some b))
    (hblk : ∀ i, m'.blk i = if i = id then some vs' else m.blk i) (hgl : m'.gl = m.gl) (hle : Le c c') (hρ : c'.ρ = c.ρ) (hG : c'.G = c.G) (hlit : c'.lit = c.lit) (hcr : CR c' (lds (m'.ver id) id vs') cs'.toList) (hone : ∀ u ∈ cs'.toList, u.oneCell' = true)
    (hother : ∀ i, i ≠ id → m'.ver i = m.ver i)
    (hown : ∀ s b cap sz len, liveB m' s = true → c'.κ s = some (.arr b cap sz len) → ∃ s0, liveB m s0 = true ∧ c.κ s0 = some (.arr b cap sz len))
    (hinj : ∀ s s' b cap sz len cap' sz' len', liveB m' s = true → liveB m' s' = true → c'.κ s = some (.arr b cap sz len) → c'.κ s' = some (.arr b cap' sz' len') → s = s')
    (hver : ∀ i off v, m'.blk i ≠ none → m'.ver i off < v → c'.κ (.cell i off v) = none) (htok : ∀ i j, m'.tok i j = true → m.tok i j = true) (hfresh : ∀ i, i ≠ id → (∀ j, c'.κ (.anon i j) = c.κ (.anon i j)) ∧ ∀ o v, c'.κ (.cell i o v) = c.κ (.cell i o v)) :
    Rep c' m' w' ∧ Ext q c m w c' m' w' := by
  have hOut : Out c.G b := by obtain ⟨b', _, _, hr', _, _, h2, _⟩ := h.blk id vs hv; rw [hr] at hr'; injection hr' with e; subst e; exact h2
  have hbl : m.blk id ≠ none := by rw [hv]; simp
  have hwas : ∀ i, m'.blk i ≠ none → m.blk i ≠ none := by
    intro i hi
    rw [hblk] at hi
    split at hi
    · rename_i e; rw [e]; exact hbl
    · exact hi
  have hownd : ∀ b', Owned c' m' b' → Owned c m b' := by
    intro b' ho
    rcases ho with ⟨i, hi, hr'⟩ | ⟨s, cap, sz, len, hl, hk⟩
    · rw [hρ] at hr'; exact .inl ⟨i, hwas i hi, hr'⟩
    · obtain ⟨s0, hl0, hk0⟩ := hown s b' cap sz len hl hk
      exact .inr ⟨s0, cap, sz, len, hl0, hk0⟩
  refine ⟨⟨by rw [hG]; exact h.com.grown hg (only_one hOut), fun i xs hx => ?_, fun i i' b' hi hi' hr1 hr2 => ?_, fun s b' cap sz len hl hk => ?_, hinj, hver, fun g => by rw [hgl]; exact (h.gl g).mono hle, fun i hf => ?_, by rw [hle.base]; exact Nat.le_trans h.base hg.size, fun b' hb => by
    rw [hlit] at hb; rw [hle.base]
    obtain ⟨l1, l2, l3⟩ := h.lit b' hb
    exact ⟨l1, Nat.lt_of_lt_of_le l2 hg.size, fun ho => l3 (hownd b' ho)⟩⟩, ?_⟩
  · rw [hblk] at hx
    split at hx
    · rename_i e
      subst e
      injection hx with hx
      subst hx
      exact ⟨b, cs', t, by rw [hρ]; exact hr, hB', hcr, by rw [hG]; exact hOut, hone⟩
    · rename_i e
      obtain ⟨b', ys, t', hr', hB2, k1, k2, k3⟩ := h.blk i xs hx
      have hne : b' ≠ b := fun e2 => e (h.inj i id b (by rw [hx]; simp) hbl (by rw [← e2]; exact hr') hr)
      refine ⟨b', ys, t', by rw [hρ]; exact hr', hB2.grown hg (by simpa using hne), ?_, by rw [hG]; exact k2, k3⟩
      rw [hother i e]; exact k1.mono hle
  · rw [hρ] at hr1 hr2
    exact h.inj i i' b' (hwas i hi) (hwas i' hi') hr1 hr2
  · obtain ⟨s0, hl0, hk0⟩ := hown s b' cap sz len hl hk
    obtain ⟨⟨ys, t', hB2, hs⟩, k1, k2, k3⟩ := h.own s0 b' cap sz len hl0 hk0
    have hne : b' ≠ b := fun e2 => k2 id hbl (by rw [e2]; exact hr)
    exact ⟨⟨ys, t', hB2.grown hg (by simpa using hne), hs⟩, by rw [hG]; exact k1, fun i hi => by rw [hρ]; exact k2 i (hwas i hi), k3⟩
  · have hf0 := hf.anti hle
    have hne : i ≠ id := by rintro rfl; rw [hf0.1] at hr; cases hr
    refine ⟨fun off => by rw [hother i hne]; exact (h.ver0 i hf0).1 off, fun j => ?_⟩
    cases hx : m'.tok i j with
    | false => rfl
    | true => have := htok i j hx; rw [(h.ver0 i hf0).2 j] at this; cases this
  · refine ⟨hle, hg.os, hg.tape, hg.output, hg.size, fun b' hb' ho _ => hg.block b' hb' (fun e => ho (by injection e with e; subst e; exact .inl ⟨id, hbl, hr⟩)), fun b' _ _ o => by rw [hG], fun b' hb' ho => hownd b' ho, fun i _ hf => ?_, fun i _ hf => ?_, fun b' _ hb' => by rw [hlit] at hb'; exact hb'⟩
    · have hne : i ≠ id := by rintro rfl; rw [hf.1] at hr; cases hr
      exact ⟨by rw [hρ]; exact hf.1, fun j => by rw [(hfresh i hne).1]; exact hf.2.1 j, fun o v => by rw [(hfresh i hne).2]; exact hf.2.2 o v⟩
    · have hne : i ≠ id := by rintro rfl; rw [hf.blk] at hv; cases hv
      refine ⟨by rw [hblk, if_neg hne]; exact hf.blk, fun j => by rw [(hfresh i hne).1]; exact hf.anon j, fun o v => by rw [(hfresh i hne).2]; exact hf.cell o v, fun off => by rw [hother i hne]; exact hf.ver off, fun j => ?_⟩
      cases hx : m'.tok i j with
      | false => rfl
      | true => have := htok i j hx; rw [hf.tok j] at this; cases this

def V.isSelf : V → Bool
  | .list .self _ => true
  | _ => false
theorem V.ld_of {v : V} (h : v.isSelf = false) (s : Stamp) : v.ld s = v := by
  cases v with
  | list o rows => cases o <;> first | rfl | cases h
  | _ => rfl

/-- cells are written that own nothing -/
theorem Rep.plain (h : Rep c m w) {q id : Pa} {b : Nat} {t : TypeId} {cs cs' : Array Value} {vs vs' : List V} (hv : m.blk id = some vs) (hr : c.ρ id = some b) (hB : Blk w b t cs) (hB' : Blk w' b t cs') (hg : w.grownBy w' (some b))
    (hcr : CR c (lds (m.ver id) id vs') cs'.toList) (hone : ∀ u ∈ cs'.toList, u.oneCell' = true) (hself : ∀ (off : Nat) (rows : List (List V)), vs'[off]? = some (V.list .self rows) → ∃ rows, vs[off]? = some (V.list .self rows)) :
    Rep c (m.set id vs') w' ∧ Ext q c m w c (m.set id vs') w' := by
  have hlive : ∀ s, liveB (m.set id vs') s = true → liveB m s = true := by
    intro s hl
    cases s with
    | anon i j => exact hl
    | cell i off v =>
      obtain ⟨h1, xs, rows, h2, h3⟩ := liveB_cell hl
      have h2' : (if i = id then some vs' else m.blk i) = some xs := h2
      split at h2'
      · rename_i e
        subst e
        injection h2' with h2'
        subst h2'
        obtain ⟨rows', h4⟩ := hself off rows h3
        exact liveB_mk h1 hv h4
      · exact liveB_mk h1 h2' h3
  exact h.block hv hr hB hB' hg (fun i => rfl) rfl (.refl c) rfl rfl rfl hcr hone (fun _ _ => rfl) (fun s b cap sz len hl hk => ⟨s, hlive s hl, hk⟩)
    (fun s s' b cap sz len cap' sz' len' hl hl' hk hk' => h.ownInj s s' b cap sz len cap' sz' len' (hlive s hl) (hlive s' hl') hk hk') (fun i off v hb => h.ver i off v (by
      have hb' : (if i = id then some vs' else m.blk i) ≠ none := hb
      by_cases e : i = id
      · rw [e, hv]; simp
      · rw [if_neg e] at hb'; exact hb')) (fun _ _ x => x) (fun _ _ => ⟨fun _ => rfl, fun _ _ => rfl⟩)

/-- the stamp of an owner that is no more -/
def M.kill (m : M) : Own → M
  | .st (.anon i j) => m.tokset i j false
  | _ => m
def selfable (m : M) (o : Own) (_ : List (List V)) : Bool :=
  match o with
  | .exact => true
  | .st (.anon i j) => m.tok i j
  | _ => false
/-- a value is stored into a cell -/
def M.st1 (m : M) (id : Pa) (vs : List V) (off : Nat) : V → M
  | .list o rows => if selfable m o rows then ((m.kill o).set id (vs.set off (.list .self rows))).bump id off else m.set id (vs.set off (.list .none rows))
  | v => m.set id (vs.set off v)

theorem Rep.st1 (h : Rep c m w) (q : Pa) {id : Pa} {vs : List V} {off : Nat} {v : V} {x : Value} (hv : m.blk id = some vs) (hoff : off < vs.length) (hx : CR c [v] [x]) (hone : x.oneCell' = true) :
    ∃ b, c.ρ id = some b ∧ off < (match w.heap[b]? with | some (.cells cs _ _) => cs.size | _ => 0) ∧ w.frozen? ⟨b, off, none⟩ = false ∧
      ∃ c', Rep c' (m.st1 id vs off v) (w.setCell ⟨b, off, none⟩ x) ∧ Ext q c m w c' (m.st1 id vs off v) (w.setCell ⟨b, off, none⟩ x) := by
  obtain ⟨b, cs, t, hr, hB, hcs, hO, hcone⟩ := h.blk id vs hv
  have hsz : cs.size = vs.length := by have := hcs.len; simpa [lds_length] using this
  refine ⟨b, hr, by unfold Blk at hB; rw [hB]; simpa [hsz] using hoff, hB.frozen off, ?_⟩
  have hB' := hB.set_ off x
  have hg := gset (grefl w (some b)) b off x (.inl rfl)
  have hone' : ∀ u ∈ (cs.setIfInBounds off x).toList, u.oneCell' = true := by
    intro u hu
    rw [Array.toList_setIfInBounds] at hu
    rcases List.mem_or_eq_of_mem_set hu with hu | rfl
    · exact hcone u hu
    · exact hone
  have plain : ∀ u : V, u.isSelf = false → CR c [u] [x] → ∃ c', Rep c' (m.set id (vs.set off u)) (w.setCell ⟨b, off, none⟩ x) ∧ Ext q c m w c' (m.set id (vs.set off u)) (w.setCell ⟨b, off, none⟩ x) := by
    intro u hu hux
    refine ⟨c, h.plain hv hr hB hB' hg ?_ hone' ?_⟩
    · rw [lds_set, V.ld_of hu, Array.toList_setIfInBounds]
      exact hcs.set off hux
    · intro off' rows h2
      by_cases e : off = off'
      · subst e
        rw [List.getElem?_set_self hoff] at h2
        injection h2 with h2; rw [h2] at hu; cases hu
      · rw [List.getElem?_set_ne e] at h2
        exact ⟨rows, h2⟩
  cases v with
  | list o rows =>
    by_cases hs : selfable m o rows = true
    · simp only [M.st1, hs, if_true]
      obtain ⟨a, cap, es, sz, rfl, k1, k2, kz, k3, k4, k5, k6, kc, k7⟩ := hx.inv_list
      -- what the cell's new stamp says
      obtain ⟨info, hinfo, hwhat⟩ : ∃ info : Info, (∀ c' : Conc, c'.κ (.cell id off (m.ver id off + 1)) = some info → OwnOk c' (.st (.cell id off (m.ver id off + 1))) rows.length sz a cap) ∧
          (info = .full ∨ ∃ i j b', o = .st (.anon i j) ∧ m.tok i j = true ∧ info = .arr b' cap sz rows.length ∧ c.κ (.anon i j) = some info) := by
        cases o with
        | none => cases hs
        | self => cases hs
        | exact => exact ⟨.full, fun c' hc' => .inl ⟨hc', k7.1⟩, .inl rfl⟩
        | st s =>
          rcases k7 with ⟨h1, h2⟩ | ⟨b', h1, h2, h3⟩
          · exact ⟨.full, fun c' hc' => .inl ⟨hc', h2⟩, .inl rfl⟩
          · cases s with
            | cell i o' v' => cases hs
            | anon i j =>
              have htok : m.tok i j = true := hs
              exact ⟨.arr b' cap sz rows.length, fun c' hc' => .inr ⟨b', hc', h2, h3⟩, .inr ⟨i, j, b', rfl, htok, rfl, h1⟩⟩
      have hnone : c.κ (.cell id off (m.ver id off + 1)) = none := h.ver id off _ (by rw [hv]; simp) (by omega)
      obtain ⟨c', hc'⟩ : ∃ c' : Conc, c' = { c with κ := fun s => if s = .cell id off (m.ver id off + 1) then some info else c.κ s } := ⟨_, rfl⟩
      have hκ : ∀ s, c'.κ s = if s = .cell id off (m.ver id off + 1) then some info else c.κ s := by intro s; rw [hc']
      have hρ : c'.ρ = c.ρ := by rw [hc']
      have hG : c'.G = c.G := by rw [hc']
      have hlit : c'.lit = c.lit := by rw [hc']
      have hle : Le c c' := ⟨by rw [hc'], fun b h => by rw [hlit]; exact h, fun i b h => by rw [hρ]; exact h, fun s i hk => by
        rw [hκ]; split
        · rename_i e; rw [e, hnone] at hk; cases hk
        · exact hk, fun b o v h => by rw [hG]; exact h⟩
      clear hc'
      have hkb : ∀ i, (m.kill o).blk i = m.blk i := by intro i; cases o with | st s => cases s <;> rfl | _ => rfl
      have hkv : ∀ i, (m.kill o).ver i = m.ver i := by intro i; cases o with | st s => cases s <;> rfl | _ => rfl
      have hkt : ∀ i j, (m.kill o).tok i j = true → m.tok i j = true := by
        intro i j ht
        cases o with
        | st s =>
          cases s with
          | anon i' j' =>
            have ht' : (if i = i' ∧ j = j' then false else m.tok i j) = true := ht
            split at ht'
            · cases ht'
            · exact ht'
          | cell _ _ _ => exact ht
        | _ => exact ht
      have hkg : (m.kill o).gl = m.gl := by cases o with | st s => cases s <;> rfl | _ => rfl
      refine ⟨c', ?_⟩
      -- what lives in the new memory lived in the old one, or is the cell's own
      have hlive : ∀ s, liveB (((m.kill o).set id (vs.set off (.list .self rows))).bump id off) s = true → s ≠ .cell id off (m.ver id off + 1) → liveB m s = true ∧ ∀ i j, o = .st (.anon i j) → s ≠ .anon i j := by
        intro s hl hne
        cases s with
        | anon i j =>
          have hl' : (m.kill o).tok i j = true := hl
          refine ⟨hkt i j hl', fun i' j' ho e => ?_⟩
          injection e with e1 e2
          subst e1 e2 ho
          have : (if i = i ∧ j = j then false else m.tok i j) = true := hl'
          simp at this
        | cell i off' v' =>
          refine ⟨?_, fun i j _ e => by cases e⟩
          obtain ⟨h1, xs, rows', h2, h3⟩ := liveB_cell hl
          have h1' : (if i = id ∧ off' = off then (m.kill o).ver i off' + 1 else (m.kill o).ver i off') = v' := h1
          rw [hkv] at h1'
          have h2' : (if i = id then some (vs.set off (.list .self rows)) else (m.kill o).blk i) = some xs := h2
          by_cases e : i = id
          · subst e
            rw [if_pos rfl] at h2'
            injection h2' with h2'
            subst h2'
            by_cases e2 : off' = off
            · subst e2
              rw [if_pos ⟨rfl, rfl⟩] at h1'
              exact absurd (by rw [h1']) hne
            · rw [if_neg (by rintro ⟨_, e3⟩; exact e2 e3)] at h1'
              rw [List.getElem?_set, if_neg (fun e3 => e2 e3.symm)] at h3
              exact liveB_mk h1' hv h3
          · rw [if_neg (by rintro ⟨e3, _⟩; exact e e3)] at h1'
            rw [if_neg e, hkb] at h2'
            exact liveB_mk h1' h2' h3
      have harr : ∀ s b cap sz len, s ≠ .cell id off (m.ver id off + 1) → c'.κ s = some (.arr b cap sz len) → c.κ s = some (.arr b cap sz len) := by
        intro s b cap sz len hne hk; rw [hκ, if_neg hne] at hk; exact hk
      refine h.block (vs' := vs.set off (.list .self rows)) hv hr hB hB' hg (fun i => ?_) hkg hle hρ hG hlit ?_ hone' (fun i hi => ?_) (fun s b'' cap'' sz'' len'' hl hk => ?_) (fun s s' b'' cap1 sz1 len1 cap2 sz2 len2 hl hl' hk hk' => ?_) (fun i off' v' hbi hv' => ?_) (fun i j ht => hkt i j ht) (fun i hf => ?_)
      · show (if i = id then some _ else (m.kill o).blk i) = _
        rw [hkb]
      · have hvf : (((m.kill o).set id (vs.set off (.list .self rows))).bump id off).ver id = fun o' => if o' = off then m.ver id o' + 1 else m.ver id o' := by
          funext o'
          show (if id = id ∧ o' = off then (m.kill o).ver id o' + 1 else (m.kill o).ver id o') = _
          rw [hkv]; simp
        rw [hvf, lds_set, Array.toList_setIfInBounds]
        have e1 : lds (fun o' => if o' = off then m.ver id o' + 1 else m.ver id o') id vs = (lds (m.ver id) id vs).set off ((vs[off]).ld (.cell id off (m.ver id off + 1))) := by
          apply List.ext_getElem?
          intro i
          by_cases hi : i = off
          · subst hi
            simp [lds, hoff]
          · have hi' : ¬ off = i := fun e => hi e.symm
            simp [lds, List.getElem?_mapIdx, hi, hi']
        rw [e1, List.set_set, if_pos rfl]
        refine (hcs.mono hle).set off ?_
        have k1' := k1.mono hle
        exact .list k1' k2 kz k3 k4 k5 (k6.mono hle.G) kc (hinfo c' (by rw [hκ, if_pos rfl])) .nil
      · funext o'
        show (if i = id ∧ o' = off then (m.kill o).ver i o' + 1 else (m.kill o).ver i o') = m.ver i o'
        rw [if_neg (by rintro ⟨e, _⟩; exact hi e), hkv]
      · by_cases hne : s = .cell id off (m.ver id off + 1)
        · rw [hκ, if_pos hne] at hk
          rcases hwhat with rfl | ⟨i, j, b', ho, ht, rfl, hk0⟩
          · cases hk
          · injection hk with hk; injection hk with e1 e2 e3 e4; subst e1 e2 e3 e4
            exact ⟨.anon i j, ht, hk0⟩
        · exact ⟨s, (hlive s hl hne).1, harr _ _ _ _ _ hne hk⟩
      · -- no two owners
        by_cases hne : s = .cell id off (m.ver id off + 1) <;> by_cases hne' : s' = .cell id off (m.ver id off + 1)
        · rw [hne, hne']
        · exfalso
          rw [hκ, if_pos hne] at hk
          have k0' := harr _ _ _ _ _ hne' hk'
          rcases hwhat with rfl | ⟨i, j, b', ho, ht, rfl, hk0⟩
          · cases hk
          · injection hk with hk; injection hk with e1 e2 e3 e4; subst e1
            have := h.ownInj (.anon i j) s' _ _ _ _ _ _ _ ht (hlive s' hl' hne').1 hk0 k0'
            exact (hlive s' hl' hne').2 i j ho this.symm
        · exfalso
          rw [hκ, if_pos hne'] at hk'
          have k0 := harr _ _ _ _ _ hne hk
          rcases hwhat with rfl | ⟨i, j, b', ho, ht, rfl, hk0⟩
          · cases hk'
          · injection hk' with hk'; injection hk' with e1 e2 e3 e4; subst e1
            have := h.ownInj (.anon i j) s _ _ _ _ _ _ _ ht (hlive s hl hne).1 hk0 k0
            exact (hlive s hl hne).2 i j ho this.symm
        · exact h.ownInj s s' b'' _ _ _ _ _ _ (hlive s hl hne).1 (hlive s' hl' hne').1 (harr _ _ _ _ _ hne hk) (harr _ _ _ _ _ hne' hk')
      · have hv2 : (if i = id ∧ off' = off then (m.kill o).ver i off' + 1 else (m.kill o).ver i off') < v' := hv'
        rw [hkv] at hv2
        rw [hκ]
        split
        · rename_i e
          injection e with e1 e2 e3
          subst e1 e2 e3
          rw [if_pos ⟨rfl, rfl⟩] at hv2
          omega
        · have hbi' : m.blk i ≠ none := by
            have hb2 : (if i = id then some (vs.set off (.list .self rows)) else (m.kill o).blk i) ≠ none := hbi
            by_cases e : i = id
            · rw [e, hv]; simp
            · rw [if_neg e, hkb] at hb2; exact hb2
          refine h.ver i off' v' hbi' ?_
          split at hv2 <;> omega
      · refine ⟨fun j => by rw [hκ, if_neg (by intro e; cases e)], fun o' v' => ?_⟩
        rw [hκ]
        split
        · rename_i e; injection e with e1; exact absurd e1 hf
        · rfl
    · simp only [M.st1]
      rw [if_neg hs]
      obtain ⟨a, cap, es, sz, rfl, k1, k2, kz, k3, k4, k5, k6, kc, k7⟩ := hx.inv_list
      exact plain _ rfl (.list k1 k2 kz k3 k4 k5 k6 kc trivial .nil)
  | _ => exact plain _ rfl hx
end
end Go.Proofs.YtolhahlnccekcaaDoor.Abs
namespace Go.Proofs.YtolhahlnccekcaaDoor.Abs
open Go.RowKit

section
variable {P : Program} (w : World)

/-- what is appended: its length and its cells -/
structure News (P : Program) (w : World) (size : Nat) (u : TypeId) (x : Value) (n : Nat) (news : List Value) : Prop where
  ty : ∃ d, P.underlying u = some d ∧ ∀ k, d ≠ .int k
  len : (Builtin.lenOf x).run P w = .ok n w
  cells : (Builtin.firstCells size n x).run P w = .ok news.toArray w
  cells' : (Builtin.firstCells size n x).run P w.drew = .ok news.toArray w.drew
  size : news.length = n * size
  one : ∀ u ∈ news, u.oneCell' = true

theorem run_app_room (t u ty e : TypeId) (i : TypeInfo) (ht : P.underlying t = some (.slice e)) (hi : P.info? e = some i) {g t' : Nat} {sLen sCap : Nat} {cur : Array Value} (hg : Blk w g t' cur) {x : Value} {n : Nat} {news : List Value}
    (hn : News P w i.size u x n news) (hroom : sLen + n ≤ sCap) (hfit : sLen * i.size + news.length ≤ cur.size) :
    (Builtin.append_ #[t, u] ty #[.slice (some ⟨g, 0, none⟩) sLen sCap, x]).run P w =
      .ok (.slice (some ⟨g, 0, none⟩) (sLen + n) sCap) (w.setRow g (cur.toList.take (sLen * i.size) ++ news ++ cur.toList.drop (sLen * i.size + news.length)).toArray) := by
  obtain ⟨d, hu, hd⟩ := hn.ty
  have hst := run_storeCells_at P g (sLen * i.size) t' news 0 cur w hg (by simpa using hfit) hn.one
  simp only [Nat.add_zero] at hst
  have hl := hn.len
  have hc := hn.cells
  simp [Builtin.append_, run_underlying ht, run_underlying hu, sizeOf, typeInfo, hi, hl, hroom, hc, Addr.add_lit, hst]

theorem run_app_full (t u ty e : TypeId) (i : TypeInfo) (z : Value) (ht : P.underlying t = some (.slice e)) (hi : P.info? e = some i) (hz : i.zero = some z) {a : Option Addr} {sLen sCap : Nat} {olds : List Value} {x : Value} {n : Nat} {news : List Value}
    (hold : (Builtin.firstCells i.size sLen (.slice a sLen sCap)).run P w.drew = .ok olds.toArray w.drew) (hn : News P w i.size u x n news) (hroom : sCap < sLen + n) (hb : (sLen + n) * i.bytes ≤ 140737488355328) (hm : sLen + n ≤ 9223372036854775807) :
    (Builtin.append_ #[t, u] ty #[.slice a sLen sCap, x]).run P w =
      .ok (.slice (some ⟨w.heap.size, 0, none⟩) (sLen + n) (grownCap w (sLen + n) sCap e))
        (w.drew.alloc (.cells (olds.toArray ++ news.toArray ++ Builtin.zeroCells z.cells (grownCap w (sLen + n) sCap e - (sLen + n))) e)) := by
  obtain ⟨d, hu, hd⟩ := hn.ty
  have hl := hn.len
  have hnr : ¬ (sLen + n ≤ sCap) := by omega
  have h63'' : ¬ (9223372036854775807 < (sLen : Int) + (n : Int)) := by omega
  have hfit := growslice_fits (bytes := i.bytes) hroom hb
  have hfit' : ¬ (281474976710656 < Builtin.nextslicecap (sLen + n) sCap * i.bytes) := by omega
  have hc' := hn.cells'
  simp [Builtin.append_, run_underlying ht, run_underlying hu, sizeOf, typeInfo, zeroValue, hi, hz, hl, hnr, h63'', hfit', Question.forced, hold, hc', newRow, grownCap]
  congr 2
  apply Array.ext'
  simp [List.append_assoc]
end

section
variable {c c' : Conc} {m m' : M} {w w' : World}
/-- a memory of which less is known -/
theorem Rep.sub (h : Rep c m w) (hver : m'.ver = m.ver) (hgl : m'.gl = m.gl) (hblk : ∀ id vs', m'.blk id = some vs' → ∃ vs, m.blk id = some vs ∧ ∀ cs, CR c (lds (m.ver id) id vs) cs → CR c (lds (m.ver id) id vs') cs) (hlive : ∀ s, liveB m' s = true → liveB m s = true) :
    Rep c m' w ∧ ∀ q, Ext q c m w c m' w := by
  have hb : ∀ id, m'.blk id ≠ none → m.blk id ≠ none := by
    intro id hid
    obtain ⟨vs', hv⟩ : ∃ vs, m'.blk id = some vs := by cases hx : m'.blk id with | none => exact absurd hx hid | some vs => exact ⟨vs, rfl⟩
    obtain ⟨vs, h1, _⟩ := hblk id vs' hv
    rw [h1]; simp
  have hown : ∀ b, Owned c m' b → Owned c m b := by
    intro b ho
    rcases ho with ⟨id, hid, hr⟩ | ⟨s, cap, sz, len, hl, hk⟩
    · exact .inl ⟨id, hb id hid, hr⟩
    · exact .inr ⟨s, cap, sz, len, hlive s hl, hk⟩
  refine ⟨⟨h.com, fun id vs' hv => ?_, fun id id' b hi hi' => h.inj id id' b (hb id hi) (hb id' hi'), fun s b cap sz len hl hk => ?_, fun s s' b cap sz len cap' sz' len' hl hl' => h.ownInj s s' b cap sz len cap' sz' len' (hlive s hl) (hlive s' hl'), fun id off v hb' => by rw [hver]; exact h.ver id off v (hb id hb'), by rw [hgl]; exact h.gl, fun id hf => ⟨by rw [hver]; exact (h.ver0 id hf).1, fun j => by
    cases hx : m'.tok id j with
    | false => rfl
    | true => have := hlive (.anon id j) hx; rw [show liveB m (.anon id j) = m.tok id j from rfl, (h.ver0 id hf).2 j] at this; cases this⟩, h.base, fun b hb => ⟨(h.lit b hb).1, (h.lit b hb).2.1, fun ho => (h.lit b hb).2.2 (hown b ho)⟩⟩, fun q => ?_⟩
  · obtain ⟨vs, h1, h2⟩ := hblk id vs' hv
    obtain ⟨b, cs, t, k1, k2, k3, k4, k5⟩ := h.blk id vs h1
    exact ⟨b, cs, t, k1, k2, by rw [hver]; exact h2 _ k3, k4, k5⟩
  · obtain ⟨k1, k2, k3, k4⟩ := h.own s b cap sz len (hlive s hl) hk
    exact ⟨k1, k2, fun id hid => k3 id (hb id hid), k4⟩
  · refine ⟨.refl c, rfl, rfl, rfl, Nat.le_refl _, fun _ _ _ _ => rfl, fun _ _ _ _ => rfl, fun b _ ho => hown b ho, fun _ _ x => x, fun id _ hb => ⟨?_, hb.anon, hb.cell, by rw [hver]; exact hb.ver, fun j => ?_⟩, fun _ _ x => x⟩
    · cases hx : m'.blk id with
      | none => rfl
      | some vs' => obtain ⟨vs, h1, _⟩ := hblk id vs' hx; rw [hb.blk] at h1; cases h1
    · cases hx : m'.tok id j with
      | false => rfl
      | true => have := hlive (.anon id j) hx; rw [show liveB m (.anon id j) = m.tok id j from rfl, hb.tok j] at this; cases this

/-- the cell gives its ownership away -/
def M.unself (m : M) (id : Pa) (off : Nat) : M :=
  match m.blk id with
  | some vs => (match vs[off]? with | some (.list .self rows) => m.set id (vs.set off (.list .none rows)) | _ => m)
  | none => m
/-- who held this stamp holds it no more -/
def M.drop (m : M) : Own → M
  | .st (.anon i j) => m.tokset i j false
  | .st (.cell i off _) => m.unself i off
  | _ => m

theorem Rep.unself (h : Rep c m w) (id : Pa) (off : Nat) : Rep c (m.unself id off) w ∧ (∀ q, Ext q c m w c (m.unself id off) w) ∧ ∀ s, liveB (m.unself id off) s = true → liveB m s = true ∧ ∀ v, s ≠ .cell id off v := by
  have triv : m.unself id off = m → (∀ v, liveB m (.cell id off v) = false) → Rep c (m.unself id off) w ∧ (∀ q, Ext q c m w c (m.unself id off) w) ∧ ∀ s, liveB (m.unself id off) s = true → liveB m s = true ∧ ∀ v, s ≠ .cell id off v := by
    intro e hn
    rw [e]
    exact ⟨h, fun q => .refl q c m w, fun s hl => ⟨hl, fun v e => by rw [e, hn] at hl; cases hl⟩⟩
  cases hv : m.blk id with
  | none => exact triv (by simp [M.unself, hv]) (fun v => by simp [liveB, hv])
  | some vs =>
    by_cases hs : ∃ rows, vs[off]? = some (V.list .self rows)
    · obtain ⟨rows, hrows⟩ := hs
      have he : m.unself id off = m.set id (vs.set off (.list .none rows)) := by simp [M.unself, hv, hrows]
      have hlen : off < vs.length := (List.getElem?_eq_some_iff.1 hrows).1
      have hlive : ∀ s, liveB (m.unself id off) s = true → liveB m s = true ∧ ∀ v, s ≠ .cell id off v := by
        rw [he]
        intro s hl
        cases s with
        | anon i j => exact ⟨hl, fun v e => by cases e⟩
        | cell i off' v =>
          obtain ⟨h1, xs, rows', h2, h3⟩ := liveB_cell hl
          have h2' : (if i = id then some (vs.set off (.list .none rows)) else m.blk i) = some xs := h2
          by_cases e : i = id
          · subst e
            rw [if_pos rfl] at h2'
            injection h2' with h2'
            subst h2'
            by_cases e2 : off' = off
            · subst e2
              rw [List.getElem?_set_self hlen] at h3; cases h3
            · rw [List.getElem?_set_ne (fun e3 => e2 e3.symm)] at h3
              exact ⟨liveB_mk h1 hv h3, fun v e => by injection e with e1 e3; exact e2 e3⟩
          · rw [if_neg e] at h2'
            exact ⟨liveB_mk h1 h2' h3, fun v e3 => by injection e3 with e1; exact e e1⟩
      have hsub := h.sub (m' := m.unself id off) (by rw [he]; rfl) (by rw [he]; rfl) (fun i vs' hx => by
        rw [he] at hx
        have hx' : (if i = id then some (vs.set off (.list .none rows)) else m.blk i) = some vs' := hx
        by_cases e : i = id
        · subst e
          rw [if_pos rfl] at hx'
          injection hx' with hx'
          subst hx'
          refine ⟨vs, hv, fun cs hcs => ?_⟩
          rw [lds_set, V.ld_of (v := .list .none rows) rfl]
          obtain ⟨x, hx1, hx2⟩ := hcs.get (lds_get hrows)
          have : cs = cs.set off x := by
            apply List.ext_getElem?
            intro k
            by_cases hk : k = off
            · subst hk; rw [List.getElem?_set_self (List.getElem?_eq_some_iff.1 hx1).1]; exact hx1
            · rw [List.getElem?_set_ne (fun e => hk e.symm)]
          rw [this]
          refine hcs.set off ?_
          obtain ⟨a, cap, es, sz, rfl, k1, k2, kz, k3, k4, k5, k6, kc, k7⟩ := hx2.inv_list
          exact .list k1 k2 kz k3 k4 k5 k6 kc trivial .nil
        · rw [if_neg e] at hx'
          exact ⟨vs', hx', fun _ x => x⟩) (fun s hl => (hlive s hl).1)
      exact ⟨hsub.1, hsub.2, hlive⟩
    · have hne : ∀ v, liveB m (.cell id off v) = false := by
        intro v
        cases hl : liveB m (.cell id off v) with
        | false => rfl
        | true =>
          obtain ⟨_, xs, rows, h2, h3⟩ := liveB_cell hl
          rw [hv] at h2; injection h2 with h2; subst h2
          exact absurd ⟨rows, h3⟩ hs
      refine triv ?_ hne
      simp only [M.unself, hv]
      split
      · rename_i rows hr; exact absurd ⟨rows, hr⟩ hs
      · rfl
theorem Rep.dropped (h : Rep c m w) (o : Own) : Rep c (m.drop o) w ∧ (∀ q, Ext q c m w c (m.drop o) w) ∧ ∀ s, liveB (m.drop o) s = true → liveB m s = true ∧ o ≠ .st s := by
  cases o with
  | st s =>
    cases s with
    | anon i j =>
      have hlive : ∀ s, liveB (m.tokset i j false) s = true → liveB m s = true ∧ Own.st (.anon i j) ≠ .st s := by
        intro s hl
        cases s with
        | anon i' j' =>
          have hl' : (if i' = i ∧ j' = j then false else m.tok i' j') = true := hl
          split at hl'
          · cases hl'
          · rename_i e
            exact ⟨hl', fun e2 => by injection e2 with e2; injection e2 with e3 e4; exact e ⟨e3.symm, e4.symm⟩⟩
        | cell _ _ _ => exact ⟨hl, fun e => by cases e⟩
      have := h.sub (m' := m.tokset i j false) rfl rfl (fun id vs' hx => ⟨vs', hx, fun _ x => x⟩) (fun s hl => (hlive s hl).1)
      exact ⟨this.1, this.2, hlive⟩
    | cell i off v =>
      obtain ⟨h1, h2, h3⟩ := h.unself i off
      exact ⟨h1, h2, fun s hl => ⟨(h3 s hl).1, fun e => by injection e with e; exact (h3 s hl).2 v e.symm⟩⟩
  | _ => exact ⟨h, fun q => .refl q c m w, fun s hl => ⟨hl, fun e => by cases e⟩⟩

/-- a block that nobody owns is written, the book grows there -/
theorem Rep.free (h : Rep c m w) {b : Nat} (hn : ¬ Owned c m b) (hg : w.grownBy w' (some b)) {G' : GG} (hG : ∀ b' o v, c.G b' o = some v → G' b' o = some v) (hGo : ∀ b', b' ≠ b → ∀ o, G' b' o = c.G b' o) (hC : Com w' G') :
    Rep { c with G := G' } m w' := by
  have hle : Le c { c with G := G' } := ⟨rfl, fun _ x => x, fun _ _ x => x, fun _ _ x => x, hG⟩
  refine ⟨hC, fun id vs hv => ?_, h.inj, fun s b' cap sz len hl hk => ?_, h.ownInj, h.ver, fun g => (h.gl g).mono hle, fun id hf => h.ver0 id (hf.anti hle), Nat.le_trans h.base hg.size, fun b hb => ⟨(h.lit b hb).1, Nat.lt_of_lt_of_le (h.lit b hb).2.1 hg.size, (h.lit b hb).2.2⟩⟩
  · obtain ⟨b', cs, t, k1, k2, k3, k4, k5⟩ := h.blk id vs hv
    have hne : b' ≠ b := fun e => hn (.inl ⟨id, by rw [hv]; simp, by rw [← e]; exact k1⟩)
    exact ⟨b', cs, t, k1, k2.grown hg (by simpa using hne), k3.mono hle, fun o => by rw [show ({ c with G := G' } : Conc).G b' o = G' b' o from rfl, hGo b' hne]; exact k4 o, k5⟩
  · obtain ⟨⟨cs, t, k1, k2⟩, k3, k4⟩ := h.own s b' cap sz len hl hk
    have hne : b' ≠ b := fun e => hn (.inr ⟨s, cap, sz, len, hl, by rw [← e]; exact hk⟩)
    exact ⟨⟨cs, t, k1.grown hg (by simpa using hne), k2⟩, fun o ho => by rw [show ({ c with G := G' } : Conc).G b' o = G' b' o from rfl, hGo b' hne]; exact k3 o ho, k4⟩

/-- a new stamp -/
def Conc.stamp (c : Conc) (q : Pa) (i : Info) : Conc := { c with κ := fun s => if s = .anon q 0 then some i else c.κ s }
theorem Rep.stamp (h : Rep c m w) {q : Pa} (hf : FreshAt c q) (i : Info) (hi : ∀ b cap sz len, i = .arr b cap sz len → ¬ c.lit b ∧ ¬ Owned c m b ∧ (∃ cs t, Blk w b t cs ∧ cs.size = cap * sz) ∧ (∀ o, len * sz ≤ o → c.G b o = none) ∧ len ≤ cap ∧ 0 < sz) :
    Rep (c.stamp q i) (m.tokset q 0 true) w ∧ Le c (c.stamp q i) := by
  have hκ : ∀ s, (c.stamp q i).κ s = if s = .anon q 0 then some i else c.κ s := fun _ => rfl
  have hle : Le c (c.stamp q i) := by
    refine ⟨rfl, fun _ x => x, fun _ _ x => x, fun s j hk => ?_, fun _ _ _ x => x⟩
    rw [hκ]; split
    · rename_i e; rw [e, hf.2.1] at hk; cases hk
    · exact hk
  have hlive : ∀ s, liveB (m.tokset q 0 true) s = true → s ≠ .anon q 0 → liveB m s = true := by
    intro s hl hne
    cases s with
    | anon i' j' =>
      have hl' : (if i' = q ∧ j' = 0 then true else m.tok i' j') = true := hl
      split at hl'
      · rename_i e; obtain ⟨rfl, rfl⟩ := e; exact absurd rfl hne
      · exact hl'
    | cell _ _ _ => exact hl
  refine ⟨⟨h.com, fun id vs hv => ?_, h.inj, fun s b cap sz len hl hk => ?_, fun s s' b cap sz len cap' sz' len' hl hl' hk hk' => ?_, fun id off v hb hv => ?_, fun g => (h.gl g).mono hle, fun id hf => ⟨(h.ver0 id (hf.anti hle)).1, fun j => ?_⟩, h.base, fun b hb => ⟨(h.lit b hb).1, (h.lit b hb).2.1, fun ho => ?_⟩⟩, hle⟩
  · obtain ⟨b, cs, t, k1, k2, k3, k4, k5⟩ := h.blk id vs hv
    exact ⟨b, cs, t, k1, k2, k3.mono hle, k4, k5⟩
  · rw [hκ] at hk
    split at hk
    · injection hk with hk
      obtain ⟨_, k0, k1, k2, k3⟩ := hi b cap sz len hk
      exact ⟨k1, k2, fun id hid hr => k0 (.inl ⟨id, hid, hr⟩), k3⟩
    · rename_i hne
      exact h.own s b cap sz len (hlive s hl hne) hk
  · rw [hκ] at hk hk'
    by_cases e1 : s = .anon q 0 <;> by_cases e2 : s' = .anon q 0
    · rw [e1, e2]
    · rw [if_pos e1] at hk; rw [if_neg e2] at hk'
      injection hk with hk
      exact absurd (.inr ⟨s', _, _, _, hlive s' hl' e2, hk'⟩) (hi _ _ _ _ hk).2.1
    · rw [if_neg e1] at hk; rw [if_pos e2] at hk'
      injection hk' with hk'
      exact absurd (.inr ⟨s, _, _, _, hlive s hl e1, hk⟩) (hi _ _ _ _ hk').2.1
    · rw [if_neg e1] at hk; rw [if_neg e2] at hk'
      exact h.ownInj s s' b _ _ _ _ _ _ (hlive s hl e1) (hlive s' hl' e2) hk hk'
  · rw [hκ, if_neg (by intro e; cases e)]
    exact h.ver id off v hb hv
  · show (if id = q ∧ j = 0 then true else m.tok id j) = false
    rw [if_neg]
    · exact (h.ver0 id (hf.anti hle)).2 j
    · rintro ⟨rfl, rfl⟩
      have := hf.2.1 0
      rw [hκ, if_pos rfl] at this; cases this
  · rcases ho with ⟨id, hid, hr⟩ | ⟨s, cap, sz, len, hl, hk⟩
    · exact (h.lit b hb).2.2 (.inl ⟨id, hid, hr⟩)
    · rw [hκ] at hk
      split at hk
      · injection hk with hk
        exact (hi b cap sz len hk).1 hb
      · rename_i hne
        exact (h.lit b hb).2.2 (.inr ⟨s, cap, sz, len, hlive s hl hne, hk⟩)
theorem Owned.stamp {q : Pa} {i : Info} {b : Nat} (h : Owned (c.stamp q i) (m.tokset q 0 true) b) : Owned c m b ∨ ∃ cap sz len, i = .arr b cap sz len := by
  rcases h with ⟨id, hid, hr⟩ | ⟨s, cap, sz, len, hl, hk⟩
  · exact .inl (.inl ⟨id, hid, hr⟩)
  · have hk' : (if s = .anon q 0 then some i else c.κ s) = some (.arr b cap sz len) := hk
    split at hk'
    · injection hk' with hk'; exact .inr ⟨cap, sz, len, hk'⟩
    · rename_i hne
      refine .inl (.inr ⟨s, cap, sz, len, ?_, hk'⟩)
      cases s with
      | anon i' j' =>
        have hl' : (if i' = q ∧ j' = 0 then true else m.tok i' j') = true := hl
        split at hl'
        · rename_i e; obtain ⟨rfl, rfl⟩ := e; exact absurd rfl hne
        · exact hl'
      | cell _ _ _ => exact hl
end
end Go.Proofs.YtolhahlnccekcaaDoor.Abs
