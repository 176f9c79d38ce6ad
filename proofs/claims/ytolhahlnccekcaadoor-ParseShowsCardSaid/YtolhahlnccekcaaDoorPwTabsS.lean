/-
  The package variables that the shower's claim lists: where they lie, and what the walks are told of them.
-/
import Derived.Test.YtolhahlnccekcaaDoorPwLaid
import Derived.Test.YtolhahlnccekcaaDoorPwGMm
import Derived.Test.YtolhahlnccekcaaDoorRows
import Derived.LaidMore
import Derived.MakeChecks
namespace Go.Proofs.YtolhahlnccekcaaDoor.Abs
open Go.RowKit
section
variable {H : Type} {enc : TypeId × Value → H} {P : Program} {w : World} {base : Nat} {spare : Nat → Bool} {held : Bool} {fuel : Nat}
/-- a table of numbers -/
theorem tabI {t e n : Nat} {k : IntKind} {l : List Int} {cs : List Value} {p : List MemPlace} (ht : P.underlying t = some (.array n e)) (he : P.underlying e = some (.int k)) (hce : P.cellsOf e = 1) (hct : P.cellsOf t = n) (hl : l.length = n)
    (h : DataW.trod enc P w base spare held fuel t cs = some (.agg (l.map fun z => .lit (.int k z)), p)) : cs = l.map fun z => Value.int k z := by
  obtain ⟨xs, m, _, hx, hlen, hn, hel⟩ := DataW.trod_array ht h
  simp only [Prod.mk.injEq, DataW.agg.injEq] at hx
  rw [hct] at hlen
  apply List.ext_getElem?
  intro i
  by_cases hi : i < n
  · have h1 := hel i hi
    rw [hce, Nat.mul_one] at h1
    obtain ⟨x, hxi⟩ : ∃ x, xs[i]? = some x := ⟨xs[i], List.getElem?_eq_getElem (by omega)⟩
    rw [hxi] at h1
    obtain ⟨s, h2, h3, _⟩ := DataW.trod_int he h1
    rw [chunk_one h2, List.getElem?_map]
    obtain ⟨y, hy⟩ : ∃ y, l[i]? = some y := ⟨l[i], List.getElem?_eq_getElem (by omega)⟩
    have h4 : (l.map fun z => (DataW.lit (.int k z) : DataW H))[i]? = (xs.map (·.1))[i]? := by rw [hx.1]
    rw [List.getElem?_map, List.getElem?_map, hy, hxi, h3] at h4
    simp only [Option.map_some, Option.some.injEq, DataW.lit.injEq, Lit.int.injEq, true_and] at h4
    rw [hy, Option.map_some, h4]
  · rw [List.getElem?_eq_none (by omega), List.getElem?_eq_none (by simp; omega)]
end
def laidS : List (String × DataW Unit) := [("math/bits.deBruijn32tab", Rows.laid_math_bits_deBruijn32tab), ("math/bits.deBruijn64tab", Rows.laid_math_bits_deBruijn64tab), ("internal/strconv.uint64pow10", Rows.laid_internal_strconv_uint64pow10), ("remontoire/lex.signs", Rows.laid_remontoire_lex_signs), ("remontoire/parse.words", Rows.laid_remontoire_parse_words), ("remontoire/parse.levels", Rows.laid_remontoire_parse_levels), ("remontoire/parse.kinds", Rows.laid_remontoire_parse_kinds)]
def tabsS : List (Nat × List Value) := [(3, g_lex_signs.map fun s => .string (bs s)), (0, g_parse_words.map fun s => .string (bs s)), (6, (g_parse_levels.map fun x => x.map fun s => Value.string (bs s)).flatten), (1, g_parse_kinds.map fun s => .string (bs s)), (5, g_internal_strconv_uint64pow10.map fun z => .int .u64 z)]
theorem gSigns : Tryd.prog.globalNamed "remontoire/lex.signs" = some 3 := by kernel_rfl
theorem gWords : Tryd.prog.globalNamed "remontoire/parse.words" = some 0 := by kernel_rfl
theorem gLevels : Tryd.prog.globalNamed "remontoire/parse.levels" = some 6 := by kernel_rfl
theorem gKinds : Tryd.prog.globalNamed "remontoire/parse.kinds" = some 1 := by kernel_rfl
theorem gPow10 : Tryd.prog.globalNamed "internal/strconv.uint64pow10" = some 5 := by kernel_rfl
theorem door_metS (os : Os) (args : Array Value) : laidMetH Tryd.prog laidS ((World.doorLaid Tryd.prog 400 os).forCall (fun _ _ => 0) ⟨#[], args, []⟩).memory :=
  laidMetH_of_parts3 (fuel := 8) (laidMet_of_run' 8 (by kernel_rfl) (by kernel_rfl)) (by kernel_rfl) (by kernel_rfl)
theorem of_laidS {W : World} (h : laidMetH Tryd.prog laidS W) : ∀ t ∈ tabsS, ∀ o, W.cell? ⟨t.1, o, none⟩ = t.2[o]? := by
  rw [MakeChecks.laidMetH_plain _ _ _ (by kernel_rfl)] at h
  obtain ⟨ps, ⟨g5, t5, cs5, f5, p5, q5, hg5, ht5, hv5, hd5, ⟨g6, t6, cs6, f6, p6, q6, hg6, ht6, hv6, hd6, ⟨g4, t4, cs4, f4, p4, q4, hg4, ht4, hv4, hd4, ⟨g0, t0, cs0, f0, p0, q0, hg0, ht0, hv0, hd0, ⟨g1, t1, cs1, f1, p1, q1, hg1, ht1, hv1, hd1, ⟨g2, t2, cs2, f2, p2, q2, hg2, ht2, hv2, hd2, ⟨g3, t3, cs3, f3, p3, q3, hg3, ht3, hv3, hd3, _, _⟩, _⟩, _⟩, _⟩, _⟩, _⟩, _⟩, _, _⟩ := h
  obtain rfl := Option.some.inj (gSigns.symm.trans hg0)
  obtain rfl := Option.some.inj (gWords.symm.trans hg1)
  obtain rfl := Option.some.inj (gLevels.symm.trans hg2)
  obtain rfl := Option.some.inj (gKinds.symm.trans hg3)
  obtain rfl := Option.some.inj (gPow10.symm.trans hg4)
  obtain rfl : t0 = 141 := by
    have h : (Tryd.prog.globals[3]?).map (·.type) = some 141 := by kernel_rfl
    exact (Option.some.inj (h.symm.trans ht0)).symm
  obtain rfl : t1 = 32 := by
    have h : (Tryd.prog.globals[0]?).map (·.type) = some 32 := by kernel_rfl
    exact (Option.some.inj (h.symm.trans ht1)).symm
  obtain rfl : t2 = 195 := by
    have h : (Tryd.prog.globals[6]?).map (·.type) = some 195 := by kernel_rfl
    exact (Option.some.inj (h.symm.trans ht2)).symm
  obtain rfl : t3 = 150 := by
    have h : (Tryd.prog.globals[1]?).map (·.type) = some 150 := by kernel_rfl
    exact (Option.some.inj (h.symm.trans ht3)).symm
  obtain rfl : t4 = 188 := by
    have h : (Tryd.prog.globals[5]?).map (·.type) = some 188 := by kernel_rfl
    exact (Option.some.inj (h.symm.trans ht4)).symm
  have hs : Tryd.prog.underlying 9 = some .string := by kernel_rfl
  have hc : Tryd.prog.cellsOf 9 = 1 := by kernel_rfl
  have e0 := tabS (t := 141) (e := 9) (n := 26) (l := g_lex_signs) (by kernel_rfl) hs hc (by kernel_rfl) rfl hd0
  have e1 := tabS (t := 32) (e := 9) (n := 13) (l := g_parse_words) (by kernel_rfl) hs hc (by kernel_rfl) rfl hd1
  have e2 := tabSS (t := 195) (a := 138) (e := 9) (n := 7) (k := 3) (l := g_parse_levels) (by kernel_rfl) (by kernel_rfl) hs hc (by kernel_rfl) (by kernel_rfl) rfl (by decide) hd2
  have e3 := tabS (t := 150) (e := 9) (n := 4) (l := g_parse_kinds) (by kernel_rfl) hs hc (by kernel_rfl) rfl hd3
  have e4 := tabI (t := 188) (e := 140) (n := 20) (k := .u64) (l := g_internal_strconv_uint64pow10) (by kernel_rfl) (by kernel_rfl) (by kernel_rfl) (by kernel_rfl) rfl hd4
  intro t ht o
  unfold tabsS at ht
  simp only [List.mem_cons, List.not_mem_nil, or_false] at ht
  rcases ht with rfl | rfl | rfl | rfl | rfl
  · rw [World.var?_cell hg0 hv0 o, ← e0, Array.getElem?_toList]
  · rw [World.var?_cell hg1 hv1 o, ← e1, Array.getElem?_toList]
  · rw [World.var?_cell hg2 hv2 o, ← e2, Array.getElem?_toList]
  · rw [World.var?_cell hg3 hv3 o, ← e3, Array.getElem?_toList]
  · rw [World.var?_cell hg4 hv4 o, ← e4, Array.getElem?_toList]
theorem tabsS_one : (tabsS.all fun t => t.2.all Value.oneCell') = true := by kernel_rfl
theorem tabsS_0 : tabsV tabsS 0 = .eptr [cA cS g_parse_words] 0 0 := by kernel_rfl
theorem tabsS_3 : tabsV tabsS 3 = .eptr [cA cS g_lex_signs] 0 0 := by kernel_rfl
theorem tabsS_6 : tabsV tabsS 6 = .eptr [cA (cA cS) g_parse_levels] 0 0 := by kernel_rfl
theorem tabsS_1 : tabsV tabsS 1 = .eptr [cA cS g_parse_kinds] 0 0 := by kernel_rfl
theorem tabsS_5 : tabsV tabsS 5 = .eptr [cA (cI .u64) g_internal_strconv_uint64pow10] 0 0 := by kernel_rfl
end Go.Proofs.YtolhahlnccekcaaDoor.Abs
