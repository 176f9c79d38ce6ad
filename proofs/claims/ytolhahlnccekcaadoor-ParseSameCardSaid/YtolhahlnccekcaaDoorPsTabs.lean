/-
  The package variables that the parser's claims list: where they lie, and what the walks are told of them.
-/
import Derived.Test.YtolhahlnccekcaaDoorPsLaid
import Derived.Test.YtolhahlnccekcaaDoorPsGMm
import Derived.Test.YtolhahlnccekcaaDoorRows
import Derived.LaidMore
import Derived.MakeChecks
namespace Go.Proofs.YtolhahlnccekcaaDoor.Abs
open Go.RowKit
def laidP : List (String × DataW Unit) := [("remontoire/lex.signs", Rows.laid_remontoire_lex_signs), ("remontoire/parse.words", Rows.laid_remontoire_parse_words), ("remontoire/parse.levels", Rows.laid_remontoire_parse_levels)]
def tabsP : List (Nat × List Value) := [(3, g_lex_signs.map fun s => .string (bs s)), (0, g_parse_words.map fun s => .string (bs s)), (6, (g_parse_levels.map fun x => x.map fun s => Value.string (bs s)).flatten)]
theorem gSigns : Tryd.prog.globalNamed "remontoire/lex.signs" = some 3 := by kernel_rfl
theorem gWords : Tryd.prog.globalNamed "remontoire/parse.words" = some 0 := by kernel_rfl
theorem gLevels : Tryd.prog.globalNamed "remontoire/parse.levels" = some 6 := by kernel_rfl
theorem door_metP (os : Os) (args : Array Value) : laidMetH Tryd.prog laidP ((World.doorLaid Tryd.prog 400 os).forCall (fun _ _ => 0) ⟨#[], args, []⟩).memory :=
  laidMetH_of_parts3 (fuel := 8) (laidMet_of_run' 8 (by kernel_rfl) (by kernel_rfl)) (by kernel_rfl) (by kernel_rfl)
theorem of_laidP {W : World} (h : laidMetH Tryd.prog laidP W) : ∀ t ∈ tabsP, ∀ o, W.cell? ⟨t.1, o, none⟩ = t.2[o]? := by
  rw [MakeChecks.laidMetH_plain _ _ _ (by kernel_rfl)] at h
  obtain ⟨ps, ⟨g0, t0, cs0, f0, p0, q0, hg0, ht0, hv0, hd0, ⟨g1, t1, cs1, f1, p1, q1, hg1, ht1, hv1, hd1, ⟨g2, t2, cs2, f2, p2, q2, hg2, ht2, hv2, hd2, _, _⟩, _⟩, _⟩, _, _⟩ := h
  obtain rfl := Option.some.inj (gSigns.symm.trans hg0)
  obtain rfl := Option.some.inj (gWords.symm.trans hg1)
  obtain rfl := Option.some.inj (gLevels.symm.trans hg2)
  obtain rfl : t0 = 141 := by
    have h : (Tryd.prog.globals[3]?).map (·.type) = some 141 := by kernel_rfl
    exact (Option.some.inj (h.symm.trans ht0)).symm
  obtain rfl : t1 = 32 := by
    have h : (Tryd.prog.globals[0]?).map (·.type) = some 32 := by kernel_rfl
    exact (Option.some.inj (h.symm.trans ht1)).symm
  obtain rfl : t2 = 195 := by
    have h : (Tryd.prog.globals[6]?).map (·.type) = some 195 := by kernel_rfl
    exact (Option.some.inj (h.symm.trans ht2)).symm
  have hs : Tryd.prog.underlying 9 = some .string := by kernel_rfl
  have hc : Tryd.prog.cellsOf 9 = 1 := by kernel_rfl
  have e0 := tabS (t := 141) (e := 9) (n := 26) (l := g_lex_signs) (by kernel_rfl) hs hc (by kernel_rfl) rfl hd0
  have e1 := tabS (t := 32) (e := 9) (n := 13) (l := g_parse_words) (by kernel_rfl) hs hc (by kernel_rfl) rfl hd1
  have e2 := tabSS (t := 195) (a := 138) (e := 9) (n := 7) (k := 3) (l := g_parse_levels) (by kernel_rfl) (by kernel_rfl) hs hc (by kernel_rfl) (by kernel_rfl) rfl (by decide) hd2
  intro t ht o
  unfold tabsP at ht
  simp only [List.mem_cons, List.not_mem_nil, or_false] at ht
  rcases ht with rfl | rfl | rfl
  · rw [World.var?_cell hg0 hv0 o, ← e0, Array.getElem?_toList]
  · rw [World.var?_cell hg1 hv1 o, ← e1, Array.getElem?_toList]
  · rw [World.var?_cell hg2 hv2 o, ← e2, Array.getElem?_toList]
theorem tabsP_one : (tabsP.all fun t => t.2.all Value.oneCell') = true := by kernel_rfl
theorem tabsP_0 : tabsV tabsP 0 = .eptr [cA cS g_parse_words] 0 0 := by kernel_rfl
theorem tabsP_3 : tabsV tabsP 3 = .eptr [cA cS g_lex_signs] 0 0 := by kernel_rfl
theorem tabsP_6 : tabsV tabsP 6 = .eptr [cA (cA cS) g_parse_levels] 0 0 := by kernel_rfl
end Go.Proofs.YtolhahlnccekcaaDoor.Abs
