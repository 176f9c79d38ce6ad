/-
  Slices that may be written: a function that gives one; remontoirelaw10.flat gives one.
-/
import Derived.Test.YtolhahlnccekcaaDoorPsV1
import Derived.Test.YtolhahlnccekcaaDoorPsGMw1
namespace Go.Proofs.YtolhahlnccekcaaDoor.Abs
open Go.RowKit
set_option linter.unusedVariables false
set_option maxRecDepth 10000
theorem SC_ofV {P : Program} {f : FuncId} {fn : Func} {body : Code} {args : List V} {q : Pa} {m : M} {R : V → M → Prop} (hf : P.funcs[f]? = some fn) (hb : fn.body = some body) (hen : ∀ (xs : Array Value) (w : World), (callFunc f xs).run P w = .ok (.enter f xs) w)
    {N : Nat} (hN : fn.ntmps = N) (hfit : fits N body = true) {t : Nat} (hrs : fn.results.toList = [.tmp t])
    (h : SW P N q body 0 (ini args) m fun e _ E' m' => (e = .ret ∨ e = .normal) ∧ ∃ id len cap cs, E' t = .arr id 0 len cap ∧ (∃ j, (j :: q) <:+ id) ∧ m'.blk id = some cs ∧ plain cs ∧ (∀ off, m'.ver id off = 0) ∧ R (.arr id 0 len cap) ((m.back q m').set id cs)) : SC P f args q m R := by
  intro c xs w h1 h2 h3
  refine .inl ⟨hen _ w, ?_⟩
  subst hN
  have hini := ini_ok h2 fn.ntmps
  refine calls_of_wp hf hb ?_
  rw [List.size_toArray]
  refine wp_mono (h hfit c _ w h1 hini h3.sub) ?_
  intro e a' w' hp
  obtain ⟨c', k', E', m', ⟨he, id, len, cap, cs, e1, ⟨j, e2⟩, e3, e4, e5, hC⟩, g2, g3, g4, g5, g6, g7⟩ := hp
  have hq : q <:+ id := under_tail e2
  have hx := results_tmp (P := P) hrs a'.tmps w'
  have hv := g4.at_ t
  rw [e1] at hv
  have hsub : ∀ i, q.isSuffixOf i = true → m.blk i = none ∧ (∀ off, m.ver i off = 0) ∧ ∀ j, m.tok i j = false := by
    intro i hi
    have hf' := h3 i (List.isSuffixOf_iff_suffix.1 hi)
    exact ⟨h1.fresh_blk hf', (h1.ver0 i hf').1, (h1.ver0 i hf').2⟩
  obtain ⟨hback, hown⟩ := h1.back h3 g2
  have hblk : ∀ i, ((m.back q m').set id cs).blk i = if i = id then some cs else (if q.isSuffixOf i then m.blk i else m'.blk i) := fun _ => rfl
  have hver : ∀ i, ((m.back q m').set id cs).ver i = if q.isSuffixOf i then m.ver i else m'.ver i := fun _ => rfl
  have htok : ∀ i, ((m.back q m').set id cs).tok i = if q.isSuffixOf i then m.tok i else m'.tok i := fun _ => rfl
  obtain ⟨hR, hO⟩ := g2.less (m2 := (m.back q m').set id cs) (fun i vs hi => by
      rw [hblk] at hi
      by_cases hii : i = id
      · subst hii
        rw [if_pos rfl] at hi
        injection hi with hi; subst hi
        refine ⟨e3, ?_⟩
        rw [hver, if_pos (List.isSuffixOf_iff_suffix.2 hq)]
        funext off
        rw [(hsub i (List.isSuffixOf_iff_suffix.2 hq)).2.1 off, e5 off]
      · rw [if_neg hii] at hi
        cases hs : q.isSuffixOf i with
        | true => rw [if_pos hs, (hsub i hs).1] at hi; cases hi
        | false => rw [if_neg (by simp [hs])] at hi; rw [hver, if_neg (by simp [hs])]; exact ⟨hi, rfl⟩)
    (fun i j hj => by
      rw [htok] at hj
      split at hj
      · rename_i hs; rw [(hsub i hs).2.2 j] at hj; cases hj
      · exact hj) rfl (fun i hi => ⟨fun off => by
      rw [hver]
      split
      · rename_i hs; exact (hsub i hs).2.1 off
      · exact (g2.ver0 i hi).1 off, fun j => by
      rw [htok]
      split
      · rename_i hs; exact (hsub i hs).2.2 j
      · exact (g2.ver0 i hi).2 j⟩)
  have hX : Ext q c m w c' ((m.back q m').set id cs) w' := ⟨g3.le, g3.os, g3.tape, g3.output, g3.size, g3.heap, g3.book, fun b hb ho => g3.own b hb (hO b ho), g3.fresh, fun i hi hb => by
    have hk := (g3.keep i hi hb).back (m := m) hi
    refine ⟨?_, hk.anon, hk.cell, hk.ver, hk.tok⟩
    rw [hblk, if_neg (by rintro rfl; exact hi hq)]
    exact hk.blk, g3.lits⟩
  have hdone : a'.defers = [] ∧ ∃ v, (results fn a'.tmps).run P w' = .ok v w' ∧ ∃ x c' r m', Ending.returned v = .returned x ∧ R r m' ∧ Rep c' m' w' ∧ Ext q c m w c' m' w' ∧ CR c' [r] [x] :=
    ⟨g6, _, hx, _, c', _, _, rfl, hC, hR, hX, hv⟩
  rcases he with rfl | rfl
  · exact hdone
  · exact hdone
end Go.Proofs.YtolhahlnccekcaaDoor.Abs
