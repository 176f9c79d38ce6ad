/-
  DERIVED. GIVEN WITH THE SEED: THE PROGRAM's TIES (one call each: nine closed facts by the kernel) AND EACH ROW's TIE, after the 31st guide's Derived/Test/Toyas{Tie, Card}.lean. No idea stands in it: it is a product of the set-up. Laid BY PROGRAM, IN A SANDBOX (cutbox-door.mjs). By AI agents, Wed Nov 11 2026. No macro, syntax, notation, axiom, sorry.
-/
import Derived.Test.YtnheknbibdgglaaGreatDoorRows
import Derived.LaidByTextLater
import Derived.SevenTiedAt
import Derived.LaidSub
import Derived.LaidOnce
namespace Go.Proofs.YtnheknbibdgglaaGreatDoor
open Go
set_option maxRecDepth 100000
theorem seatTie1 : Tryz.prog.laidByTextLater [("remontoire/term.all", Rows.laid_remontoire_term_all), ("remontoire/lex.signs", Rows.laid_remontoire_lex_signs), ("remontoire/parse.words", Rows.laid_remontoire_parse_words), ("remontoire/parse.levels", Rows.laid_remontoire_parse_levels), ("remontoire/check.built", Rows.laid_remontoire_check_built), ("remontoire/interp.ops", Rows.laid_remontoire_interp_ops)] [.data, .data, .widerDeep, .data, .data, .data] true :=
  Program.laidByTextLater_by_one 66 8 31 (by kernel_rfl) (by kernel_rfl) (by kernel_rfl) (by kernel_rfl) (by kernel_rfl) (by kernel_rfl) (fun _ _ => by kernel_rfl)
theorem noOwnUnsafe : Tryz.pinned.checked.prog.headLifts.contains "ownunsafe" = false := by kernel_rfl
theorem tie : Tryz.prog.laidByTextLater [("remontoire/term.all", Rows.laid_remontoire_term_all), ("remontoire/lex.signs", Rows.laid_remontoire_lex_signs), ("remontoire/parse.words", Rows.laid_remontoire_parse_words), ("remontoire/parse.levels", Rows.laid_remontoire_parse_levels), ("remontoire/check.built", Rows.laid_remontoire_check_built), ("remontoire/interp.ops", Rows.laid_remontoire_interp_ops)] [.data, .data, .widerDeep, .data, .data, .data] true :=
  Program.laidByTextLater.sub seatTie1 ["remontoire/term.all", "remontoire/lex.signs", "remontoire/parse.words", "remontoire/parse.levels", "remontoire/check.built", "remontoire/interp.ops"] (by kernel_rfl) (by kernel_rfl)
theorem closedTerms_row_tie : Rows.closedTermsRow.laidByTextAt .later Tryz.pinned [.data, .data, .widerDeep, .data, .data, .data] true :=
  OpenClaim.laidByTextAt_later rfl rfl tie noOwnUnsafe
theorem closedTraces_row_tie : Rows.closedTracesRow.laidByTextAt .later Tryz.pinned [.data, .data, .widerDeep, .data, .data, .data] true :=
  OpenClaim.laidByTextAt_later rfl rfl tie noOwnUnsafe
theorem tie2 : Tryz.prog.laidByTextLater [("remontoire/lex.signs", Rows.laid_remontoire_lex_signs), ("remontoire/parse.words", Rows.laid_remontoire_parse_words), ("remontoire/parse.levels", Rows.laid_remontoire_parse_levels), ("remontoire/check.built", Rows.laid_remontoire_check_built), ("remontoire/interp.ops", Rows.laid_remontoire_interp_ops)] [.data, .widerDeep, .data, .data, .data] true :=
  Program.laidByTextLater.sub seatTie1 ["remontoire/lex.signs", "remontoire/parse.words", "remontoire/parse.levels", "remontoire/check.built", "remontoire/interp.ops"] (by kernel_rfl) (by kernel_rfl)
theorem flatMeans_row_tie : Rows.flatMeansRow.laidByTextAt .later Tryz.pinned [.data, .widerDeep, .data, .data, .data] true :=
  OpenClaim.laidByTextAt_later rfl rfl tie2 noOwnUnsafe
theorem closedTermsUpto_row_tie : Rows.closedTermsUptoRow.laidByTextAt .later Tryz.pinned [.data, .data, .widerDeep, .data, .data, .data] true :=
  OpenClaim.laidByTextAt_later rfl rfl tie noOwnUnsafe
theorem flatMeansUpto_row_tie : Rows.flatMeansUptoRow.laidByTextAt .later Tryz.pinned [.data, .widerDeep, .data, .data, .data] true :=
  OpenClaim.laidByTextAt_later rfl rfl tie2 noOwnUnsafe
theorem closedTracesUpto_row_tie : Rows.closedTracesUptoRow.laidByTextAt .later Tryz.pinned [.data, .data, .widerDeep, .data, .data, .data] true :=
  OpenClaim.laidByTextAt_later rfl rfl tie noOwnUnsafe
end Go.Proofs.YtnheknbibdgglaaGreatDoor
