/-
  DERIVED. GIVEN WITH THE SEED: THE PROGRAM's TIES (one call each: nine closed facts by the kernel) AND EACH ROW's TIE, after the 31st guide's Derived/Test/Toyas{Tie, Card}.lean. No idea stands in it: it is a product of the set-up. Laid BY PROGRAM, IN A SANDBOX (cutbox-door.mjs). By AI agents, Wed Nov 11 2026. No macro, syntax, notation, axiom, sorry.
-/
import Derived.Test.YtolhahlnccekcaaDoorRows
import Derived.LaidByTextLater
import Derived.SevenTiedAt
import Derived.LaidSub
import Derived.LaidOnce
namespace Go.Proofs.YtolhahlnccekcaaDoor
open Go
set_option maxRecDepth 100000
theorem seatTie1 : Tryd.prog.laidByTextLater [("math/bits.deBruijn32tab", Rows.laid_math_bits_deBruijn32tab), ("math/bits.deBruijn64tab", Rows.laid_math_bits_deBruijn64tab), ("internal/strconv.uint64pow10", Rows.laid_internal_strconv_uint64pow10), ("remontoire/lex.signs", Rows.laid_remontoire_lex_signs), ("remontoire/parse.words", Rows.laid_remontoire_parse_words), ("remontoire/parse.levels", Rows.laid_remontoire_parse_levels), ("remontoire/parse.kinds", Rows.laid_remontoire_parse_kinds), ("remontoire/check.built", Rows.laid_remontoire_check_built)] [.data, .data, .data, .data, .widerDeep, .data, .data, .data] true :=
  Program.laidByTextLater_by_one 61 8 65 (by kernel_rfl) (by kernel_rfl) (by kernel_rfl) (by kernel_rfl) (by kernel_rfl) (by kernel_rfl) (fun _ _ => by kernel_rfl)
theorem noOwnUnsafe : Tryd.pinned.checked.prog.headLifts.contains "ownunsafe" = false := by kernel_rfl
theorem tie : Tryd.prog.laidByTextLater [("remontoire/lex.signs", Rows.laid_remontoire_lex_signs), ("remontoire/parse.words", Rows.laid_remontoire_parse_words), ("remontoire/parse.levels", Rows.laid_remontoire_parse_levels)] [.data, .widerDeep, .data] true :=
  Program.laidByTextLater.sub seatTie1 ["remontoire/lex.signs", "remontoire/parse.words", "remontoire/parse.levels"] (by kernel_rfl) (by kernel_rfl)
theorem parseWords_row_tie : Rows.parseWordsRow.laidByTextAt .later Tryd.pinned [.data, .widerDeep, .data] true :=
  OpenClaim.laidByTextAt_later rfl rfl tie noOwnUnsafe
theorem parseLevels_row_tie : Rows.parseLevelsRow.laidByTextAt .later Tryd.pinned [.data, .widerDeep, .data] true :=
  OpenClaim.laidByTextAt_later rfl rfl tie noOwnUnsafe
theorem parseTrees_row_tie : Rows.parseTreesRow.laidByTextAt .later Tryd.pinned [.data, .widerDeep, .data] true :=
  OpenClaim.laidByTextAt_later rfl rfl tie noOwnUnsafe
theorem parseSame_row_tie : Rows.parseSameRow.laidByTextAt .later Tryd.pinned [.data, .widerDeep, .data] true :=
  OpenClaim.laidByTextAt_later rfl rfl tie noOwnUnsafe
theorem parseJoins_row_tie : Rows.parseJoinsRow.laidByTextAt .later Tryd.pinned [.data, .widerDeep, .data] true :=
  OpenClaim.laidByTextAt_later rfl rfl tie noOwnUnsafe
theorem tie2 : Tryd.prog.laidByTextLater [("math/bits.deBruijn32tab", Rows.laid_math_bits_deBruijn32tab), ("math/bits.deBruijn64tab", Rows.laid_math_bits_deBruijn64tab), ("internal/strconv.uint64pow10", Rows.laid_internal_strconv_uint64pow10), ("remontoire/lex.signs", Rows.laid_remontoire_lex_signs), ("remontoire/parse.words", Rows.laid_remontoire_parse_words), ("remontoire/parse.levels", Rows.laid_remontoire_parse_levels), ("remontoire/parse.kinds", Rows.laid_remontoire_parse_kinds)] [.data, .data, .data, .data, .widerDeep, .data, .data] true :=
  Program.laidByTextLater.sub seatTie1 ["math/bits.deBruijn32tab", "math/bits.deBruijn64tab", "internal/strconv.uint64pow10", "remontoire/lex.signs", "remontoire/parse.words", "remontoire/parse.levels", "remontoire/parse.kinds"] (by kernel_rfl) (by kernel_rfl)
theorem parseShows_row_tie : Rows.parseShowsRow.laidByTextAt .later Tryd.pinned [.data, .data, .data, .data, .widerDeep, .data, .data] true :=
  OpenClaim.laidByTextAt_later rfl rfl tie2 noOwnUnsafe
theorem tie3 : Tryd.prog.laidByTextLater [("remontoire/lex.signs", Rows.laid_remontoire_lex_signs), ("remontoire/parse.words", Rows.laid_remontoire_parse_words), ("remontoire/parse.levels", Rows.laid_remontoire_parse_levels), ("remontoire/check.built", Rows.laid_remontoire_check_built)] [.data, .widerDeep, .data, .data] true :=
  Program.laidByTextLater.sub seatTie1 ["remontoire/lex.signs", "remontoire/parse.words", "remontoire/parse.levels", "remontoire/check.built"] (by kernel_rfl) (by kernel_rfl)
theorem checkNumbers_row_tie : Rows.checkNumbersRow.laidByTextAt .later Tryd.pinned [.data, .widerDeep, .data, .data] true :=
  OpenClaim.laidByTextAt_later rfl rfl tie3 noOwnUnsafe
theorem checkFinds_row_tie : Rows.checkFindsRow.laidByTextAt .later Tryd.pinned [.data, .widerDeep, .data, .data] true :=
  OpenClaim.laidByTextAt_later rfl rfl tie3 noOwnUnsafe
theorem parseWordsUpto_row_tie : Rows.parseWordsUptoRow.laidByTextAt .later Tryd.pinned [.data, .widerDeep, .data] true :=
  OpenClaim.laidByTextAt_later rfl rfl tie noOwnUnsafe
theorem parseLevelsUpto_row_tie : Rows.parseLevelsUptoRow.laidByTextAt .later Tryd.pinned [.data, .widerDeep, .data] true :=
  OpenClaim.laidByTextAt_later rfl rfl tie noOwnUnsafe
theorem parseTreesUpto_row_tie : Rows.parseTreesUptoRow.laidByTextAt .later Tryd.pinned [.data, .widerDeep, .data] true :=
  OpenClaim.laidByTextAt_later rfl rfl tie noOwnUnsafe
theorem parseSameUpto_row_tie : Rows.parseSameUptoRow.laidByTextAt .later Tryd.pinned [.data, .widerDeep, .data] true :=
  OpenClaim.laidByTextAt_later rfl rfl tie noOwnUnsafe
theorem parseJoinsUpto_row_tie : Rows.parseJoinsUptoRow.laidByTextAt .later Tryd.pinned [.data, .widerDeep, .data] true :=
  OpenClaim.laidByTextAt_later rfl rfl tie noOwnUnsafe
theorem parseShowsUpto_row_tie : Rows.parseShowsUptoRow.laidByTextAt .later Tryd.pinned [.data, .data, .data, .data, .widerDeep, .data, .data] true :=
  OpenClaim.laidByTextAt_later rfl rfl tie2 noOwnUnsafe
theorem checkNumbersUpto_row_tie : Rows.checkNumbersUptoRow.laidByTextAt .later Tryd.pinned [.data, .widerDeep, .data, .data] true :=
  OpenClaim.laidByTextAt_later rfl rfl tie3 noOwnUnsafe
theorem checkFindsUpto_row_tie : Rows.checkFindsUptoRow.laidByTextAt .later Tryd.pinned [.data, .widerDeep, .data, .data] true :=
  OpenClaim.laidByTextAt_later rfl rfl tie3 noOwnUnsafe
end Go.Proofs.YtolhahlnccekcaaDoor
