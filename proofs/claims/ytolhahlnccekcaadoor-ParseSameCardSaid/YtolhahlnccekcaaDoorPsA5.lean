/-
  Own helper theorems of no one function: append, seen from above.
-/
import Derived.Test.YtolhahlnccekcaaDoorPsA4
namespace Go.Proofs.YtolhahlnccekcaaDoor.Abs
open Go.RowKit

section
variable {P : Program} (w : World)

/-- what is appended: its length and its cells -/
structure News (P : Program) (w : World) (size : Nat) (u : TypeId) (x : Value) (n : Nat) (news : List Value) : Prop where
  ty : ∃ d, P.underlying u = some d ∧ ∀ k, d ≠ .int k
  len : (Builtin.lenOf x).run P w = .ok n w
  cells : (Builtin.firstCells size n x).run P w = .ok news.toArray w
  cells' : (Builtin.firstCells size n x).run P w.drew = .ok news.toArray w.drew
  size : news.length = n * size
  one : ∀ u ∈ news, u.oneCell' = true

theorem run_app_room (t u ty e : TypeId) (i : TypeInfo) (ht : P.underlying t = some (.slice e)) (hi : P.info? e = some i) {g t' : Nat} {sLen sCap : Nat} {cur : Array Value} (hg : Blk w g t' cur) {x : Value} {n : Nat} {news : List Value}
    (hn : News P w i.size u x n news) (hroom : sLen + n ≤ sCap) (hfit : sLen * i.size + news.length ≤ cur.size) :
    (Builtin.append_ #[t, u] ty #[.slice (some ⟨g, 0, none⟩) sLen sCap, x]).run P w =
      .ok (.slice (some ⟨g, 0, none⟩) (sLen + n) sCap) (w.setRow g (cur.toList.take (sLen * i.size) ++ news ++ cur.toList.drop (sLen * i.size + news.length)).toArray) := by
  obtain ⟨d, hu, hd⟩ := hn.ty
  have hst := run_storeCells_at P g (sLen * i.size) t' news 0 cur w hg (by simpa using hfit) hn.one
  simp only [Nat.add_zero] at hst
  have hl := hn.len
  have hc := hn.cells
  simp [Builtin.append_, run_underlying ht, run_underlying hu, sizeOf, typeInfo, hi, hl, hroom, hc, Addr.add_lit, hst]

theorem run_app_full (t u ty e : TypeId) (i : TypeInfo) (z : Value) (ht : P.underlying t = some (.slice e)) (hi : P.info? e = some i) (hz : i.zero = some z) {a : Option Addr} {sLen sCap : Nat} {olds : List Value} {x : Value} {n : Nat} {news : List Value}
    (hold : (Builtin.firstCells i.size sLen (.slice a sLen sCap)).run P w.drew = .ok olds.toArray w.drew) (hn : News P w i.size u x n news) (hroom : sCap < sLen + n) (hb : (sLen + n) * i.bytes ≤ 140737488355328) (hm : sLen + n ≤ 9223372036854775807) :
    (Builtin.append_ #[t, u] ty #[.slice a sLen sCap, x]).run P w =
      .ok (.slice (some ⟨w.heap.size, 0, none⟩) (sLen + n) (grownCap w (sLen + n) sCap e))
        (w.drew.alloc (.cells (olds.toArray ++ news.toArray ++ Builtin.zeroCells z.cells (grownCap w (sLen + n) sCap e - (sLen + n))) e)) := by
  obtain ⟨d, hu, hd⟩ := hn.ty
  have hl := hn.len
  have hnr : ¬ (sLen + n ≤ sCap) := by omega
  have h63'' : ¬ (9223372036854775807 < (sLen : Int) + (n : Int)) := by omega
  have hfit := growslice_fits (bytes := i.bytes) hroom hb
  have hfit' : ¬ (281474976710656 < Builtin.nextslicecap (sLen + n) sCap * i.bytes) := by omega
  have hc' := hn.cells'
  simp [Builtin.append_, run_underlying ht, run_underlying hu, sizeOf, typeInfo, zeroValue, hi, hz, hl, hnr, h63'', hfit', Question.forced, hold, hc', newRow, grownCap]
  congr 2
  apply Array.ext'
  simp [List.append_assoc]
end

section
variable {c c' : Conc} {m m' : M} {w w' : World}
/-- a memory of which less is known -/
theorem Rep.sub (h : Rep c m w) (hver : m'.ver = m.ver) (hgl : m'.gl = m.gl) (hblk : ∀ id vs', m'.blk id = some vs' → ∃ vs, m.blk id = some vs ∧ ∀ cs, CR c (lds (m.ver id) id vs) cs → CR c (lds (m.ver id) id vs') cs) (hlive : ∀ s, liveB m' s = true → liveB m s = true) :
    Rep c m' w ∧ ∀ q, Ext q c m w c m' w := by
  have hb : ∀ id, m'.blk id ≠ none → m.blk id ≠ none := by
    intro id hid
    obtain ⟨vs', hv⟩ : ∃ vs, m'.blk id = some vs := by cases hx : m'.blk id with | none => exact absurd hx hid | some vs => exact ⟨vs, rfl⟩
    obtain ⟨vs, h1, _⟩ := hblk id vs' hv
    rw [h1]; simp
  have hown : ∀ b, Owned c m' b → Owned c m b := by
    intro b ho
    rcases ho with ⟨id, hid, hr⟩ | ⟨s, cap, sz, len, hl, hk⟩
    · exact .inl ⟨id, hb id hid, hr⟩
    · exact .inr ⟨s, cap, sz, len, hlive s hl, hk⟩
  refine ⟨⟨h.com, fun id vs' hv => ?_, fun id id' b hi hi' => h.inj id id' b (hb id hi) (hb id' hi'), fun s b cap sz len hl hk => ?_, fun s s' b cap sz len cap' sz' len' hl hl' => h.ownInj s s' b cap sz len cap' sz' len' (hlive s hl) (hlive s' hl'), fun id off v hb' => by rw [hver]; exact h.ver id off v (hb id hb'), by rw [hgl]; exact h.gl, fun id hf => ⟨by rw [hver]; exact (h.ver0 id hf).1, fun j => by
    cases hx : m'.tok id j with
    | false => rfl
    | true => have := hlive (.anon id j) hx; rw [show liveB m (.anon id j) = m.tok id j from rfl, (h.ver0 id hf).2 j] at this; cases this⟩, h.base, fun b hb => ⟨(h.lit b hb).1, (h.lit b hb).2.1, fun ho => (h.lit b hb).2.2 (hown b ho)⟩⟩, fun q => ?_⟩
  · obtain ⟨vs, h1, h2⟩ := hblk id vs' hv
    obtain ⟨b, cs, t, k1, k2, k3, k4, k5⟩ := h.blk id vs h1
    exact ⟨b, cs, t, k1, k2, by rw [hver]; exact h2 _ k3, k4, k5⟩
  · obtain ⟨k1, k2, k3, k4⟩ := h.own s b cap sz len (hlive s hl) hk
    exact ⟨k1, k2, fun id hid => k3 id (hb id hid), k4⟩
  · refine ⟨.refl c, rfl, rfl, rfl, Nat.le_refl _, fun _ _ _ _ => rfl, fun _ _ _ _ => rfl, fun b _ ho => hown b ho, fun _ _ x => x, fun id _ hb => ⟨?_, hb.anon, hb.cell, by rw [hver]; exact hb.ver, fun j => ?_⟩, fun _ _ x => x⟩
    · cases hx : m'.blk id with
      | none => rfl
      | some vs' => obtain ⟨vs, h1, _⟩ := hblk id vs' hx; rw [hb.blk] at h1; cases h1
    · cases hx : m'.tok id j with
      | false => rfl
      | true => have := hlive (.anon id j) hx; rw [show liveB m (.anon id j) = m.tok id j from rfl, hb.tok j] at this; cases this

/-- the cell gives its ownership away -/
def M.unself (m : M) (id : Pa) (off : Nat) : M :=
  match m.blk id with
  | some vs => (match vs[off]? with | some (.list .self rows) => m.set id (vs.set off (.list .none rows)) | _ => m)
  | none => m
/-- who held this stamp holds it no more -/
def M.drop (m : M) : Own → M
  | .st (.anon i j) => m.tokset i j false
  | .st (.cell i off _) => m.unself i off
  | _ => m

theorem Rep.unself (h : Rep c m w) (id : Pa) (off : Nat) : Rep c (m.unself id off) w ∧ (∀ q, Ext q c m w c (m.unself id off) w) ∧ ∀ s, liveB (m.unself id off) s = true → liveB m s = true ∧ ∀ v, s ≠ .cell id off v := by
  have triv : m.unself id off = m → (∀ v, liveB m (.cell id off v) = false) → Rep c (m.unself id off) w ∧ (∀ q, Ext q c m w c (m.unself id off) w) ∧ ∀ s, liveB (m.unself id off) s = true → liveB m s = true ∧ ∀ v, s ≠ .cell id off v := by
    intro e hn
    rw [e]
    exact ⟨h, fun q => .refl q c m w, fun s hl => ⟨hl, fun v e => by rw [e, hn] at hl; cases hl⟩⟩
  cases hv : m.blk id with
  | none => exact triv (by simp [M.unself, hv]) (fun v => by simp [liveB, hv])
  | some vs =>
    by_cases hs : ∃ rows, vs[off]? = some (V.list .self rows)
    · obtain ⟨rows, hrows⟩ := hs
      have he : m.unself id off = m.set id (vs.set off (.list .none rows)) := by simp [M.unself, hv, hrows]
      have hlen : off < vs.length := (List.getElem?_eq_some_iff.1 hrows).1
      have hlive : ∀ s, liveB (m.unself id off) s = true → liveB m s = true ∧ ∀ v, s ≠ .cell id off v := by
        rw [he]
        intro s hl
        cases s with
        | anon i j => exact ⟨hl, fun v e => by cases e⟩
        | cell i off' v =>
          obtain ⟨h1, xs, rows', h2, h3⟩ := liveB_cell hl
          have h2' : (if i = id then some (vs.set off (.list .none rows)) else m.blk i) = some xs := h2
          by_cases e : i = id
          · subst e
            rw [if_pos rfl] at h2'
            injection h2' with h2'
            subst h2'
            by_cases e2 : off' = off
            · subst e2
              rw [List.getElem?_set_self hlen] at h3; cases h3
            · rw [List.getElem?_set_ne (fun e3 => e2 e3.symm)] at h3
              exact ⟨liveB_mk h1 hv h3, fun v e => by injection e with e1 e3; exact e2 e3⟩
          · rw [if_neg e] at h2'
            exact ⟨liveB_mk h1 h2' h3, fun v e3 => by injection e3 with e1; exact e e1⟩
      have hsub := h.sub (m' := m.unself id off) (by rw [he]; rfl) (by rw [he]; rfl) (fun i vs' hx => by
        rw [he] at hx
        have hx' : (if i = id then some (vs.set off (.list .none rows)) else m.blk i) = some vs' := hx
        by_cases e : i = id
        · subst e
          rw [if_pos rfl] at hx'
          injection hx' with hx'
          subst hx'
          refine ⟨vs, hv, fun cs hcs => ?_⟩
          rw [lds_set, V.ld_of (v := .list .none rows) rfl]
          obtain ⟨x, hx1, hx2⟩ := hcs.get (lds_get hrows)
          have : cs = cs.set off x := by
            apply List.ext_getElem?
            intro k
            by_cases hk : k = off
            · subst hk; rw [List.getElem?_set_self (List.getElem?_eq_some_iff.1 hx1).1]; exact hx1
            · rw [List.getElem?_set_ne (fun e => hk e.symm)]
          rw [this]
          refine hcs.set off ?_
          obtain ⟨a, cap, es, sz, rfl, k1, k2, kz, k3, k4, k5, k6, kc, k7⟩ := hx2.inv_list
          exact .list k1 k2 kz k3 k4 k5 k6 kc trivial .nil
        · rw [if_neg e] at hx'
          exact ⟨vs', hx', fun _ x => x⟩) (fun s hl => (hlive s hl).1)
      exact ⟨hsub.1, hsub.2, hlive⟩
    · have hne : ∀ v, liveB m (.cell id off v) = false := by
        intro v
        cases hl : liveB m (.cell id off v) with
        | false => rfl
        | true =>
          obtain ⟨_, xs, rows, h2, h3⟩ := liveB_cell hl
          rw [hv] at h2; injection h2 with h2; subst h2
          exact absurd ⟨rows, h3⟩ hs
      refine triv ?_ hne
      simp only [M.unself, hv]
      split
      · rename_i rows hr; exact absurd ⟨rows, hr⟩ hs
      · rfl
theorem Rep.dropped (h : Rep c m w) (o : Own) : Rep c (m.drop o) w ∧ (∀ q, Ext q c m w c (m.drop o) w) ∧ ∀ s, liveB (m.drop o) s = true → liveB m s = true ∧ o ≠ .st s := by
  cases o with
  | st s =>
    cases s with
    | anon i j =>
      have hlive : ∀ s, liveB (m.tokset i j false) s = true → liveB m s = true ∧ Own.st (.anon i j) ≠ .st s := by
        intro s hl
        cases s with
        | anon i' j' =>
          have hl' : (if i' = i ∧ j' = j then false else m.tok i' j') = true := hl
          split at hl'
          · cases hl'
          · rename_i e
            exact ⟨hl', fun e2 => by injection e2 with e2; injection e2 with e3 e4; exact e ⟨e3.symm, e4.symm⟩⟩
        | cell _ _ _ => exact ⟨hl, fun e => by cases e⟩
      have := h.sub (m' := m.tokset i j false) rfl rfl (fun id vs' hx => ⟨vs', hx, fun _ x => x⟩) (fun s hl => (hlive s hl).1)
      exact ⟨this.1, this.2, hlive⟩
    | cell i off v =>
      obtain ⟨h1, h2, h3⟩ := h.unself i off
      exact ⟨h1, h2, fun s hl => ⟨(h3 s hl).1, fun e => by injection e with e; exact (h3 s hl).2 v e.symm⟩⟩
  | _ => exact ⟨h, fun q => .refl q c m w, fun s hl => ⟨hl, fun e => by cases e⟩⟩

/-- a block that nobody owns is written, the book grows there -/
theorem Rep.free (h : Rep c m w) {b : Nat} (hn : ¬ Owned c m b) (hg : w.grownBy w' (some b)) {G' : GG} (hG : ∀ b' o v, c.G b' o = some v → G' b' o = some v) (hGo : ∀ b', b' ≠ b → ∀ o, G' b' o = c.G b' o) (hC : Com w' G') :
    Rep { c with G := G' } m w' := by
  have hle : Le c { c with G := G' } := ⟨rfl, fun _ x => x, fun _ _ x => x, fun _ _ x => x, hG⟩
  refine ⟨hC, fun id vs hv => ?_, h.inj, fun s b' cap sz len hl hk => ?_, h.ownInj, h.ver, fun g => (h.gl g).mono hle, fun id hf => h.ver0 id (hf.anti hle), Nat.le_trans h.base hg.size, fun b hb => ⟨(h.lit b hb).1, Nat.lt_of_lt_of_le (h.lit b hb).2.1 hg.size, (h.lit b hb).2.2⟩⟩
  · obtain ⟨b', cs, t, k1, k2, k3, k4, k5⟩ := h.blk id vs hv
    have hne : b' ≠ b := fun e => hn (.inl ⟨id, by rw [hv]; simp, by rw [← e]; exact k1⟩)
    exact ⟨b', cs, t, k1, k2.grown hg (by simpa using hne), k3.mono hle, fun o => by rw [show ({ c with G := G' } : Conc).G b' o = G' b' o from rfl, hGo b' hne]; exact k4 o, k5⟩
  · obtain ⟨⟨cs, t, k1, k2⟩, k3, k4⟩ := h.own s b' cap sz len hl hk
    have hne : b' ≠ b := fun e => hn (.inr ⟨s, cap, sz, len, hl, by rw [← e]; exact hk⟩)
    exact ⟨⟨cs, t, k1.grown hg (by simpa using hne), k2⟩, fun o ho => by rw [show ({ c with G := G' } : Conc).G b' o = G' b' o from rfl, hGo b' hne]; exact k3 o ho, k4⟩

/-- a new stamp -/
def Conc.stamp (c : Conc) (q : Pa) (i : Info) : Conc := { c with κ := fun s => if s = .anon q 0 then some i else c.κ s }
theorem Rep.stamp (h : Rep c m w) {q : Pa} (hf : FreshAt c q) (i : Info) (hi : ∀ b cap sz len, i = .arr b cap sz len → ¬ c.lit b ∧ ¬ Owned c m b ∧ (∃ cs t, Blk w b t cs ∧ cs.size = cap * sz) ∧ (∀ o, len * sz ≤ o → c.G b o = none) ∧ len ≤ cap ∧ 0 < sz) :
    Rep (c.stamp q i) (m.tokset q 0 true) w ∧ Le c (c.stamp q i) := by
  have hκ : ∀ s, (c.stamp q i).κ s = if s = .anon q 0 then some i else c.κ s := fun _ => rfl
  have hle : Le c (c.stamp q i) := by
    refine ⟨rfl, fun _ x => x, fun _ _ x => x, fun s j hk => ?_, fun _ _ _ x => x⟩
    rw [hκ]; split
    · rename_i e; rw [e, hf.2.1] at hk; cases hk
    · exact hk
  have hlive : ∀ s, liveB (m.tokset q 0 true) s = true → s ≠ .anon q 0 → liveB m s = true := by
    intro s hl hne
    cases s with
    | anon i' j' =>
      have hl' : (if i' = q ∧ j' = 0 then true else m.tok i' j') = true := hl
      split at hl'
      · rename_i e; obtain ⟨rfl, rfl⟩ := e; exact absurd rfl hne
      · exact hl'
    | cell _ _ _ => exact hl
  refine ⟨⟨h.com, fun id vs hv => ?_, h.inj, fun s b cap sz len hl hk => ?_, fun s s' b cap sz len cap' sz' len' hl hl' hk hk' => ?_, fun id off v hb hv => ?_, fun g => (h.gl g).mono hle, fun id hf => ⟨(h.ver0 id (hf.anti hle)).1, fun j => ?_⟩, h.base, fun b hb => ⟨(h.lit b hb).1, (h.lit b hb).2.1, fun ho => ?_⟩⟩, hle⟩
  · obtain ⟨b, cs, t, k1, k2, k3, k4, k5⟩ := h.blk id vs hv
    exact ⟨b, cs, t, k1, k2, k3.mono hle, k4, k5⟩
  · rw [hκ] at hk
    split at hk
    · injection hk with hk
      obtain ⟨_, k0, k1, k2, k3⟩ := hi b cap sz len hk
      exact ⟨k1, k2, fun id hid hr => k0 (.inl ⟨id, hid, hr⟩), k3⟩
    · rename_i hne
      exact h.own s b cap sz len (hlive s hl hne) hk
  · rw [hκ] at hk hk'
    by_cases e1 : s = .anon q 0 <;> by_cases e2 : s' = .anon q 0
    · rw [e1, e2]
    · rw [if_pos e1] at hk; rw [if_neg e2] at hk'
      injection hk with hk
      exact absurd (.inr ⟨s', _, _, _, hlive s' hl' e2, hk'⟩) (hi _ _ _ _ hk).2.1
    · rw [if_neg e1] at hk; rw [if_pos e2] at hk'
      injection hk' with hk'
      exact absurd (.inr ⟨s, _, _, _, hlive s hl e1, hk⟩) (hi _ _ _ _ hk').2.1
    · rw [if_neg e1] at hk; rw [if_neg e2] at hk'
      exact h.ownInj s s' b _ _ _ _ _ _ (hlive s hl e1) (hlive s' hl' e2) hk hk'
  · rw [hκ, if_neg (by intro e; cases e)]
    exact h.ver id off v hb hv
  · show (if id = q ∧ j = 0 then true else m.tok id j) = false
    rw [if_neg]
    · exact (h.ver0 id (hf.anti hle)).2 j
    · rintro ⟨rfl, rfl⟩
      have := hf.2.1 0
      rw [hκ, if_pos rfl] at this; cases this
  · rcases ho with ⟨id, hid, hr⟩ | ⟨s, cap, sz, len, hl, hk⟩
    · exact (h.lit b hb).2.2 (.inl ⟨id, hid, hr⟩)
    · rw [hκ] at hk
      split at hk
      · injection hk with hk
        exact (hi b cap sz len hk).1 hb
      · rename_i hne
        exact (h.lit b hb).2.2 (.inr ⟨s, cap, sz, len, hlive s hl hne, hk⟩)
theorem Owned.stamp {q : Pa} {i : Info} {b : Nat} (h : Owned (c.stamp q i) (m.tokset q 0 true) b) : Owned c m b ∨ ∃ cap sz len, i = .arr b cap sz len := by
  rcases h with ⟨id, hid, hr⟩ | ⟨s, cap, sz, len, hl, hk⟩
  · exact .inl (.inl ⟨id, hid, hr⟩)
  · have hk' : (if s = .anon q 0 then some i else c.κ s) = some (.arr b cap sz len) := hk
    split at hk'
    · injection hk' with hk'; exact .inr ⟨cap, sz, len, hk'⟩
    · rename_i hne
      refine .inl (.inr ⟨s, cap, sz, len, ?_, hk'⟩)
      cases s with
      | anon i' j' =>
        have hl' : (if i' = q ∧ j' = 0 then true else m.tok i' j') = true := hl
        split at hl'
        · rename_i e; obtain ⟨rfl, rfl⟩ := e; exact absurd rfl hne
        · exact hl'
      | cell _ _ _ => exact hl
end
end Go.Proofs.YtolhahlnccekcaaDoor.Abs
