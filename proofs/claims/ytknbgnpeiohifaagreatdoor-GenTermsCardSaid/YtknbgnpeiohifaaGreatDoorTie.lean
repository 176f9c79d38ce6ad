/-
  DERIVED. GIVEN WITH THE SEED: THE PROGRAM's TIES (one call each: nine closed facts by the kernel) AND EACH ROW's TIE, after the 31st guide's Derived/Test/Toyas{Tie, Card}.lean. No idea stands in it: it is a product of the set-up. Laid BY PROGRAM, IN A SANDBOX (cutbox-door.mjs). By AI agents, Wed Nov 11 2026. No macro, syntax, notation, axiom, sorry.
-/
import Derived.Test.YtknbgnpeiohifaaGreatDoorRows
import Derived.LaidByTextLater
import Derived.SevenTiedAt
import Derived.LaidSub
import Derived.LaidOnce
namespace Go.Proofs.YtknbgnpeiohifaaGreatDoor
open Go
set_option maxRecDepth 100000
theorem seatTie1 : Tryz.prog.laidByTextLater [("remontoire/term.all", Rows.laid_remontoire_term_all), ("remontoire/vop.rows", Rows.laid_remontoire_vop_rows), ("remontoire/lex.signs", Rows.laid_remontoire_lex_signs), ("remontoire/parse.words", Rows.laid_remontoire_parse_words), ("remontoire/parse.levels", Rows.laid_remontoire_parse_levels), ("remontoire/check.built", Rows.laid_remontoire_check_built), ("remontoire/interp.ops", Rows.laid_remontoire_interp_ops), ("remontoire/gen.simple", Rows.laid_remontoire_gen_simple)] [.data, .data, .data, .widerDeep, .data, .data, .data, .data] true :=
  Program.laidByTextLater_by_one 115 8 65 (by kernel_rfl) (by kernel_rfl) (by kernel_rfl) (by kernel_rfl) (by kernel_rfl) (by kernel_rfl) (fun _ _ => by kernel_rfl)
theorem noOwnUnsafe : Tryz.pinned.checked.prog.headLifts.contains "ownunsafe" = false := by kernel_rfl
theorem tie : Tryz.prog.laidByTextLater [("remontoire/lex.signs", Rows.laid_remontoire_lex_signs), ("remontoire/parse.words", Rows.laid_remontoire_parse_words), ("remontoire/parse.levels", Rows.laid_remontoire_parse_levels), ("remontoire/check.built", Rows.laid_remontoire_check_built)] [.data, .widerDeep, .data, .data] true :=
  Program.laidByTextLater.sub seatTie1 ["remontoire/lex.signs", "remontoire/parse.words", "remontoire/parse.levels", "remontoire/check.built"] (by kernel_rfl) (by kernel_rfl)
theorem flatRows_row_tie : Rows.flatRowsRow.laidByTextAt .later Tryz.pinned [.data, .widerDeep, .data, .data] true :=
  OpenClaim.laidByTextAt_later rfl rfl tie noOwnUnsafe
theorem tie2 : Tryz.prog.laidByTextLater [("remontoire/term.all", Rows.laid_remontoire_term_all), ("remontoire/lex.signs", Rows.laid_remontoire_lex_signs), ("remontoire/parse.words", Rows.laid_remontoire_parse_words), ("remontoire/parse.levels", Rows.laid_remontoire_parse_levels), ("remontoire/check.built", Rows.laid_remontoire_check_built), ("remontoire/interp.ops", Rows.laid_remontoire_interp_ops)] [.data, .data, .widerDeep, .data, .data, .data] true :=
  Program.laidByTextLater.sub seatTie1 ["remontoire/term.all", "remontoire/lex.signs", "remontoire/parse.words", "remontoire/parse.levels", "remontoire/check.built", "remontoire/interp.ops"] (by kernel_rfl) (by kernel_rfl)
theorem closedTraces_row_tie : Rows.closedTracesRow.laidByTextAt .later Tryz.pinned [.data, .data, .widerDeep, .data, .data, .data] true :=
  OpenClaim.laidByTextAt_later rfl rfl tie2 noOwnUnsafe
theorem tie3 : Tryz.prog.laidByTextLater [("remontoire/term.all", Rows.laid_remontoire_term_all), ("remontoire/vop.rows", Rows.laid_remontoire_vop_rows), ("remontoire/lex.signs", Rows.laid_remontoire_lex_signs), ("remontoire/parse.words", Rows.laid_remontoire_parse_words), ("remontoire/parse.levels", Rows.laid_remontoire_parse_levels), ("remontoire/check.built", Rows.laid_remontoire_check_built), ("remontoire/interp.ops", Rows.laid_remontoire_interp_ops), ("remontoire/gen.simple", Rows.laid_remontoire_gen_simple)] [.data, .data, .data, .widerDeep, .data, .data, .data, .data] true :=
  Program.laidByTextLater.sub seatTie1 ["remontoire/term.all", "remontoire/vop.rows", "remontoire/lex.signs", "remontoire/parse.words", "remontoire/parse.levels", "remontoire/check.built", "remontoire/interp.ops", "remontoire/gen.simple"] (by kernel_rfl) (by kernel_rfl)
theorem genTerms_row_tie : Rows.genTermsRow.laidByTextAt .later Tryz.pinned [.data, .data, .data, .widerDeep, .data, .data, .data, .data] true :=
  OpenClaim.laidByTextAt_later rfl rfl tie3 noOwnUnsafe
theorem genRight_row_tie : Rows.genRightRow.laidByTextAt .later Tryz.pinned [.data, .data, .data, .widerDeep, .data, .data, .data, .data] true :=
  OpenClaim.laidByTextAt_later rfl rfl tie3 noOwnUnsafe
theorem genMeans_row_tie : Rows.genMeansRow.laidByTextAt .later Tryz.pinned [.data, .data, .data, .widerDeep, .data, .data, .data, .data] true :=
  OpenClaim.laidByTextAt_later rfl rfl tie3 noOwnUnsafe
theorem flatRowsUpto_row_tie : Rows.flatRowsUptoRow.laidByTextAt .later Tryz.pinned [.data, .widerDeep, .data, .data] true :=
  OpenClaim.laidByTextAt_later rfl rfl tie noOwnUnsafe
theorem closedTracesUpto_row_tie : Rows.closedTracesUptoRow.laidByTextAt .later Tryz.pinned [.data, .data, .widerDeep, .data, .data, .data] true :=
  OpenClaim.laidByTextAt_later rfl rfl tie2 noOwnUnsafe
theorem genTermsUpto_row_tie : Rows.genTermsUptoRow.laidByTextAt .later Tryz.pinned [.data, .data, .data, .widerDeep, .data, .data, .data, .data] true :=
  OpenClaim.laidByTextAt_later rfl rfl tie3 noOwnUnsafe
theorem genRightUpto_row_tie : Rows.genRightUptoRow.laidByTextAt .later Tryz.pinned [.data, .data, .data, .widerDeep, .data, .data, .data, .data] true :=
  OpenClaim.laidByTextAt_later rfl rfl tie3 noOwnUnsafe
theorem genMeansUpto_row_tie : Rows.genMeansUptoRow.laidByTextAt .later Tryz.pinned [.data, .data, .data, .widerDeep, .data, .data, .data, .data] true :=
  OpenClaim.laidByTextAt_later rfl rfl tie3 noOwnUnsafe
end Go.Proofs.YtknbgnpeiohifaaGreatDoor
