/-
  NARROWER THAN 'FOR EVERY INPUT', by the rows' own cells (each row's printed sentence says how): ParseWords: laid · ParseLevels: laid · ParseTrees: laid · ParseSame: laid · ParseJoins: laid · ParseShows: laid · CheckNumbers: laid · CheckFinds: laid.
  DERIVED. THE GIVEN ROWS OF THIS SEAT. 8 by the template 'for every input the law returns true; each argument reads behind the call as it read before'; 0 by the template 'total and deterministic' (their statements: YtolhahlnccekcaaDoorTotals.lean).
  GIVEN WITH THE SEED: the statements are not yours to turn. If you find one false, say at which input.
  Laid BY PROGRAM, IN A SANDBOX (cutbox-rows.mjs): the forced cells as the released guide's own fill.sh prints them over the translation 0bb990de573b298f… (all of the seat's roots in one cut). By AI agents, Wed Nov 11 2026. No macro, syntax, notation, axiom, sorry.
-/
import Derived.Test.YtolhahlnccekcaaDoorChecked
import GoSem.Claim
import GoSem.ClaimJoined
import GoSem.ClaimMapViews
import Derived.JoinedTies
import Derived.KernelRfl
namespace Go.Proofs.YtolhahlnccekcaaDoor
/- THE CELL 'sum', in the pinned program and in every row, IS THE sha256 OF THE DUMP (.gsa) THAT YtolhahlnccekcaaDoorProg.lean LOADS. Nothing in Lean hashes anything: it is a label: what it is worth is what the hold of that sum in a sandbox is worth. -/
noncomputable def Tryd.pinned : Pinned := { name := "ytolhahlnccekcaadoor", sum := "0bb990de573b298fc4373b8b78192d63b5a2f85d723b2b865b41edaef840af84", checked := Tryd.checked }
namespace Rows
def none {H : Type} : Left H := { results := [], args := [] }

/- WHAT THE LISTED PACKAGE-LEVEL VARIABLES READ AS WHEN THE CALL BEGINS. Each datum BY PROGRAM (the guide's laid-datum.mjs) off the statement by which the dump's own 'gosem.cut.vars' lays the variable. In a bare row this is a premise. The card (YtolhahlnccekcaaDoorCards.lean) ties it to the program's text. -/
def laid_remontoire_lex_signs {H : Type} : DataW H := .agg [.lit (.string [45, 62]), .lit (.string [46, 46]), .lit (.string [61, 61]), .lit (.string [60, 60, 60]), .lit (.string [60, 60]), .lit (.string [62, 62]), .lit (.string [60]), .lit (.string [40]), .lit (.string [41]), .lit (.string [123]), .lit (.string [125]), .lit (.string [91]), .lit (.string [93]), .lit (.string [44]), .lit (.string [59]), .lit (.string [58]), .lit (.string [61]), .lit (.string [43]), .lit (.string [45]), .lit (.string [42]), .lit (.string [47]), .lit (.string [37]), .lit (.string [38]), .lit (.string [124]), .lit (.string [94]), .lit (.string [126])]
def laid_remontoire_parse_words {H : Type} : DataW H := .agg [.lit (.string [102, 110]), .lit (.string [101, 120, 112, 111, 114, 116]), .lit (.string [108, 101, 116]), .lit (.string [118, 97, 114]), .lit (.string [97, 114, 114]), .lit (.string [105, 102]), .lit (.string [101, 108, 115, 101]), .lit (.string [102, 111, 114]), .lit (.string [105, 110]), .lit (.string [114, 101, 116, 117, 114, 110]), .lit (.string [112, 117, 98]), .lit (.string [117, 51, 50]), .lit (.string [117, 54, 52])]
def laid_remontoire_parse_levels {H : Type} : DataW H := .agg [.agg [.lit (.string [124]), .lit (.string []), .lit (.string [])], .agg [.lit (.string [94]), .lit (.string []), .lit (.string [])], .agg [.lit (.string [38]), .lit (.string []), .lit (.string [])], .agg [.lit (.string [61, 61]), .lit (.string [60]), .lit (.string [])], .agg [.lit (.string [60, 60]), .lit (.string [62, 62]), .lit (.string [60, 60, 60])], .agg [.lit (.string [43]), .lit (.string [45]), .lit (.string [])], .agg [.lit (.string [42]), .lit (.string [47]), .lit (.string [37])]]
def laid_math_bits_deBruijn32tab {H : Type} : DataW H := .agg [.lit (.int .u8 0), .lit (.int .u8 1), .lit (.int .u8 28), .lit (.int .u8 2), .lit (.int .u8 29), .lit (.int .u8 14), .lit (.int .u8 24), .lit (.int .u8 3), .lit (.int .u8 30), .lit (.int .u8 22), .lit (.int .u8 20), .lit (.int .u8 15), .lit (.int .u8 25), .lit (.int .u8 17), .lit (.int .u8 4), .lit (.int .u8 8), .lit (.int .u8 31), .lit (.int .u8 27), .lit (.int .u8 13), .lit (.int .u8 23), .lit (.int .u8 21), .lit (.int .u8 19), .lit (.int .u8 16), .lit (.int .u8 7), .lit (.int .u8 26), .lit (.int .u8 12), .lit (.int .u8 18), .lit (.int .u8 6), .lit (.int .u8 11), .lit (.int .u8 5), .lit (.int .u8 10), .lit (.int .u8 9)]
def laid_math_bits_deBruijn64tab {H : Type} : DataW H := .agg [.lit (.int .u8 0), .lit (.int .u8 1), .lit (.int .u8 56), .lit (.int .u8 2), .lit (.int .u8 57), .lit (.int .u8 49), .lit (.int .u8 28), .lit (.int .u8 3), .lit (.int .u8 61), .lit (.int .u8 58), .lit (.int .u8 42), .lit (.int .u8 50), .lit (.int .u8 38), .lit (.int .u8 29), .lit (.int .u8 17), .lit (.int .u8 4), .lit (.int .u8 62), .lit (.int .u8 47), .lit (.int .u8 59), .lit (.int .u8 36), .lit (.int .u8 45), .lit (.int .u8 43), .lit (.int .u8 51), .lit (.int .u8 22), .lit (.int .u8 53), .lit (.int .u8 39), .lit (.int .u8 33), .lit (.int .u8 30), .lit (.int .u8 24), .lit (.int .u8 18), .lit (.int .u8 12), .lit (.int .u8 5), .lit (.int .u8 63), .lit (.int .u8 55), .lit (.int .u8 48), .lit (.int .u8 27), .lit (.int .u8 60), .lit (.int .u8 41), .lit (.int .u8 37), .lit (.int .u8 16), .lit (.int .u8 46), .lit (.int .u8 35), .lit (.int .u8 44), .lit (.int .u8 21), .lit (.int .u8 52), .lit (.int .u8 32), .lit (.int .u8 23), .lit (.int .u8 11), .lit (.int .u8 54), .lit (.int .u8 26), .lit (.int .u8 40), .lit (.int .u8 15), .lit (.int .u8 34), .lit (.int .u8 20), .lit (.int .u8 31), .lit (.int .u8 10), .lit (.int .u8 25), .lit (.int .u8 14), .lit (.int .u8 19), .lit (.int .u8 9), .lit (.int .u8 13), .lit (.int .u8 8), .lit (.int .u8 7), .lit (.int .u8 6)]
def laid_internal_strconv_uint64pow10 {H : Type} : DataW H := .agg [.lit (.int .u64 1), .lit (.int .u64 10), .lit (.int .u64 100), .lit (.int .u64 1000), .lit (.int .u64 10000), .lit (.int .u64 100000), .lit (.int .u64 1000000), .lit (.int .u64 10000000), .lit (.int .u64 100000000), .lit (.int .u64 1000000000), .lit (.int .u64 10000000000), .lit (.int .u64 100000000000), .lit (.int .u64 1000000000000), .lit (.int .u64 10000000000000), .lit (.int .u64 100000000000000), .lit (.int .u64 1000000000000000), .lit (.int .u64 10000000000000000), .lit (.int .u64 100000000000000000), .lit (.int .u64 1000000000000000000), .lit (.int .u64 10000000000000000000)]
def laid_remontoire_parse_kinds {H : Type} : DataW H := .agg [.lit (.string []), .lit (.string [112, 117, 98]), .lit (.string [117, 51, 50]), .lit (.string [117, 54, 52])]
def laid_remontoire_check_built {H : Type} : DataW H := .agg [.agg [.lit (.string [115, 101, 108, 101, 99, 116]), .lit (.int .i64 3)], .agg [.lit (.string [108, 111, 110, 103]), .lit (.int .i64 1)], .agg [.lit (.string [108, 111]), .lit (.int .i64 1)], .agg [.lit (.string [104, 105]), .lit (.int .i64 1)], .agg [.lit (.string [119, 105, 100, 101]), .lit (.int .i64 2)]]

/-- 'remontoirelaw10.ParseWords': WHATEVER THE INPUT: true; the input reads as it did. -/
def parseWordsSpec : ChangeSpec := { name := "parseWords", fn := fun _ => fun
  | [d] => { results := [.lit (.bool true)], args := [d] }
  | _ => none }
def parseWordsRow : OpenClaim := { program := "ytolhahlnccekcaadoor", sum := "0bb990de573b298fc4373b8b78192d63b5a2f85d723b2b865b41edaef840af84", func := "remontoire/remontoirelaw10.ParseWords", spec := "parseWords", inPlace := ["internal/bytealg.IndexByteString"], unfollowed := true, recurses := true, named := ["remontoire/lex.signs", "remontoire/parse.words", "remontoire/parse.levels"], apart := false, laid := [("remontoire/lex.signs", laid_remontoire_lex_signs), ("remontoire/parse.words", laid_remontoire_parse_words), ("remontoire/parse.levels", laid_remontoire_parse_levels)] }
def ParseWordsSaid : Prop := parseWordsRow.holds Tryd.pinned (OpenSpec.ofChange parseWordsSpec)

/-- ITS FALSE NEIGHBOUR: 'it returns false'. Refute it at one input. -/
def parseWordsWrong : ChangeSpec := { name := "parseWords", fn := fun _ => fun
  | [d] => { results := [.lit (.bool false)], args := [d] }
  | _ => none }
def ParseWordsWrongFalsely : Prop := parseWordsRow.holds Tryd.pinned (OpenSpec.ofChange parseWordsWrong)

/-- 'remontoirelaw10.ParseLevels': WHATEVER THE INPUT: true; the input reads as it did. -/
def parseLevelsSpec : ChangeSpec := { name := "parseLevels", fn := fun _ => fun
  | [d1, d2] => { results := [.lit (.bool true)], args := [d1, d2] }
  | _ => none }
def parseLevelsRow : OpenClaim := { program := "ytolhahlnccekcaadoor", sum := "0bb990de573b298fc4373b8b78192d63b5a2f85d723b2b865b41edaef840af84", func := "remontoire/remontoirelaw10.ParseLevels", spec := "parseLevels", inPlace := ["internal/bytealg.IndexByteString"], unfollowed := true, recurses := true, named := ["remontoire/lex.signs", "remontoire/parse.words", "remontoire/parse.levels"], apart := false, laid := [("remontoire/lex.signs", laid_remontoire_lex_signs), ("remontoire/parse.words", laid_remontoire_parse_words), ("remontoire/parse.levels", laid_remontoire_parse_levels)] }
def ParseLevelsSaid : Prop := parseLevelsRow.holds Tryd.pinned (OpenSpec.ofChange parseLevelsSpec)

/-- ITS FALSE NEIGHBOUR: 'it returns false'. Refute it at one input. -/
def parseLevelsWrong : ChangeSpec := { name := "parseLevels", fn := fun _ => fun
  | [d1, d2] => { results := [.lit (.bool false)], args := [d1, d2] }
  | _ => none }
def ParseLevelsWrongFalsely : Prop := parseLevelsRow.holds Tryd.pinned (OpenSpec.ofChange parseLevelsWrong)

/-- 'remontoirelaw10.ParseTrees': WHATEVER THE INPUT: true; the input reads as it did. -/
def parseTreesSpec : ChangeSpec := { name := "parseTrees", fn := fun _ => fun
  | [d] => { results := [.lit (.bool true)], args := [d] }
  | _ => none }
def parseTreesRow : OpenClaim := { program := "ytolhahlnccekcaadoor", sum := "0bb990de573b298fc4373b8b78192d63b5a2f85d723b2b865b41edaef840af84", func := "remontoire/remontoirelaw10.ParseTrees", spec := "parseTrees", inPlace := ["internal/bytealg.IndexByteString"], unfollowed := true, recurses := true, named := ["remontoire/lex.signs", "remontoire/parse.words", "remontoire/parse.levels"], apart := false, laid := [("remontoire/lex.signs", laid_remontoire_lex_signs), ("remontoire/parse.words", laid_remontoire_parse_words), ("remontoire/parse.levels", laid_remontoire_parse_levels)] }
def ParseTreesSaid : Prop := parseTreesRow.holds Tryd.pinned (OpenSpec.ofChange parseTreesSpec)

/-- ITS FALSE NEIGHBOUR: 'it returns false'. Refute it at one input. -/
def parseTreesWrong : ChangeSpec := { name := "parseTrees", fn := fun _ => fun
  | [d] => { results := [.lit (.bool false)], args := [d] }
  | _ => none }
def ParseTreesWrongFalsely : Prop := parseTreesRow.holds Tryd.pinned (OpenSpec.ofChange parseTreesWrong)

/-- 'remontoirelaw10.ParseSame': WHATEVER THE INPUT: true; the input reads as it did. -/
def parseSameSpec : ChangeSpec := { name := "parseSame", fn := fun _ => fun
  | [d1, d2] => { results := [.lit (.bool true)], args := [d1, d2] }
  | _ => none }
def parseSameRow : OpenClaim := { program := "ytolhahlnccekcaadoor", sum := "0bb990de573b298fc4373b8b78192d63b5a2f85d723b2b865b41edaef840af84", func := "remontoire/remontoirelaw10.ParseSame", spec := "parseSame", inPlace := ["internal/bytealg.IndexByteString"], unfollowed := true, recurses := true, named := ["remontoire/lex.signs", "remontoire/parse.words", "remontoire/parse.levels"], apart := false, laid := [("remontoire/lex.signs", laid_remontoire_lex_signs), ("remontoire/parse.words", laid_remontoire_parse_words), ("remontoire/parse.levels", laid_remontoire_parse_levels)] }
def ParseSameSaid : Prop := parseSameRow.holds Tryd.pinned (OpenSpec.ofChange parseSameSpec)

/-- ITS FALSE NEIGHBOUR: 'it returns false'. Refute it at one input. -/
def parseSameWrong : ChangeSpec := { name := "parseSame", fn := fun _ => fun
  | [d1, d2] => { results := [.lit (.bool false)], args := [d1, d2] }
  | _ => none }
def ParseSameWrongFalsely : Prop := parseSameRow.holds Tryd.pinned (OpenSpec.ofChange parseSameWrong)

/-- 'remontoirelaw10.ParseJoins': WHATEVER THE INPUT: true; the input reads as it did. -/
def parseJoinsSpec : ChangeSpec := { name := "parseJoins", fn := fun _ => fun
  | [d1, d2] => { results := [.lit (.bool true)], args := [d1, d2] }
  | _ => none }
def parseJoinsRow : OpenClaim := { program := "ytolhahlnccekcaadoor", sum := "0bb990de573b298fc4373b8b78192d63b5a2f85d723b2b865b41edaef840af84", func := "remontoire/remontoirelaw10.ParseJoins", spec := "parseJoins", inPlace := ["internal/bytealg.IndexByteString"], unfollowed := true, recurses := true, named := ["remontoire/lex.signs", "remontoire/parse.words", "remontoire/parse.levels"], apart := false, laid := [("remontoire/lex.signs", laid_remontoire_lex_signs), ("remontoire/parse.words", laid_remontoire_parse_words), ("remontoire/parse.levels", laid_remontoire_parse_levels)] }
def ParseJoinsSaid : Prop := parseJoinsRow.holds Tryd.pinned (OpenSpec.ofChange parseJoinsSpec)

/-- ITS FALSE NEIGHBOUR: 'it returns false'. Refute it at one input. -/
def parseJoinsWrong : ChangeSpec := { name := "parseJoins", fn := fun _ => fun
  | [d1, d2] => { results := [.lit (.bool false)], args := [d1, d2] }
  | _ => none }
def ParseJoinsWrongFalsely : Prop := parseJoinsRow.holds Tryd.pinned (OpenSpec.ofChange parseJoinsWrong)

/-- 'remontoirelaw10.ParseShows': WHATEVER THE INPUT: true; the input reads as it did. -/
def parseShowsSpec : ChangeSpec := { name := "parseShows", fn := fun _ => fun
  | [d] => { results := [.lit (.bool true)], args := [d] }
  | _ => none }
def parseShowsRow : OpenClaim := { program := "ytolhahlnccekcaadoor", sum := "0bb990de573b298fc4373b8b78192d63b5a2f85d723b2b865b41edaef840af84", func := "remontoire/remontoirelaw10.ParseShows", spec := "parseShows", inPlace := ["internal/bytealg.IndexByteString", "internal/abi.NoEscape", "internal/bytealg.MakeNoZero"], unfollowed := true, recurses := true, named := ["remontoire/lex.signs", "remontoire/parse.words", "remontoire/parse.levels", "remontoire/parse.kinds", "internal/strconv.uint64pow10", "math/bits.deBruijn32tab", "math/bits.deBruijn64tab"], apart := false, laid := [("math/bits.deBruijn32tab", laid_math_bits_deBruijn32tab), ("math/bits.deBruijn64tab", laid_math_bits_deBruijn64tab), ("internal/strconv.uint64pow10", laid_internal_strconv_uint64pow10), ("remontoire/lex.signs", laid_remontoire_lex_signs), ("remontoire/parse.words", laid_remontoire_parse_words), ("remontoire/parse.levels", laid_remontoire_parse_levels), ("remontoire/parse.kinds", laid_remontoire_parse_kinds)] }
def ParseShowsSaid : Prop := parseShowsRow.holds Tryd.pinned (OpenSpec.ofChange parseShowsSpec)

/-- ITS FALSE NEIGHBOUR: 'it returns false'. Refute it at one input. -/
def parseShowsWrong : ChangeSpec := { name := "parseShows", fn := fun _ => fun
  | [d] => { results := [.lit (.bool false)], args := [d] }
  | _ => none }
def ParseShowsWrongFalsely : Prop := parseShowsRow.holds Tryd.pinned (OpenSpec.ofChange parseShowsWrong)

/-- 'remontoirelaw12.CheckNumbers': WHATEVER THE INPUT: true; the input reads as it did. -/
def checkNumbersSpec : ChangeSpec := { name := "checkNumbers", fn := fun _ => fun
  | [d1, d2] => { results := [.lit (.bool true)], args := [d1, d2] }
  | _ => none }
def checkNumbersRow : OpenClaim := { program := "ytolhahlnccekcaadoor", sum := "0bb990de573b298fc4373b8b78192d63b5a2f85d723b2b865b41edaef840af84", func := "remontoire/remontoirelaw12.CheckNumbers", spec := "checkNumbers", inPlace := ["internal/bytealg.IndexByteString"], unfollowed := true, recurses := true, named := ["remontoire/lex.signs", "remontoire/parse.words", "remontoire/parse.levels", "remontoire/check.built"], apart := false, laid := [("remontoire/lex.signs", laid_remontoire_lex_signs), ("remontoire/parse.words", laid_remontoire_parse_words), ("remontoire/parse.levels", laid_remontoire_parse_levels), ("remontoire/check.built", laid_remontoire_check_built)] }
def CheckNumbersSaid : Prop := checkNumbersRow.holds Tryd.pinned (OpenSpec.ofChange checkNumbersSpec)

/-- ITS FALSE NEIGHBOUR: 'it returns false'. Refute it at one input. -/
def checkNumbersWrong : ChangeSpec := { name := "checkNumbers", fn := fun _ => fun
  | [d1, d2] => { results := [.lit (.bool false)], args := [d1, d2] }
  | _ => none }
def CheckNumbersWrongFalsely : Prop := checkNumbersRow.holds Tryd.pinned (OpenSpec.ofChange checkNumbersWrong)

/-- 'remontoirelaw12.CheckFinds': WHATEVER THE INPUT: true; the input reads as it did. -/
def checkFindsSpec : ChangeSpec := { name := "checkFinds", fn := fun _ => fun
  | [d1, d2, d3] => { results := [.lit (.bool true)], args := [d1, d2, d3] }
  | _ => none }
def checkFindsRow : OpenClaim := { program := "ytolhahlnccekcaadoor", sum := "0bb990de573b298fc4373b8b78192d63b5a2f85d723b2b865b41edaef840af84", func := "remontoire/remontoirelaw12.CheckFinds", spec := "checkFinds", inPlace := ["internal/bytealg.IndexByteString"], unfollowed := true, recurses := true, named := ["remontoire/lex.signs", "remontoire/parse.words", "remontoire/parse.levels", "remontoire/check.built"], apart := false, laid := [("remontoire/lex.signs", laid_remontoire_lex_signs), ("remontoire/parse.words", laid_remontoire_parse_words), ("remontoire/parse.levels", laid_remontoire_parse_levels), ("remontoire/check.built", laid_remontoire_check_built)] }
def CheckFindsSaid : Prop := checkFindsRow.holds Tryd.pinned (OpenSpec.ofChange checkFindsSpec)

/-- ITS FALSE NEIGHBOUR: 'it returns false'. Refute it at one input. -/
def checkFindsWrong : ChangeSpec := { name := "checkFinds", fn := fun _ => fun
  | [d1, d2, d3] => { results := [.lit (.bool false)], args := [d1, d2, d3] }
  | _ => none }
def CheckFindsWrongFalsely : Prop := checkFindsRow.holds Tryd.pinned (OpenSpec.ofChange checkFindsWrong)

/- THE SECOND FORM. 'bulk': how many values and letters a reading holds, each counted each time it is reached (what is shared counts as often as it is met; a slice's spare places count too). A statement '..UptoSaid' is the law's where the arguments, and the package variables that the reading takes, are together of bulk at most 1048576: NARROWER than '..Said'. Prove '..Said' where nothing that the law and all that it calls make is longer than what came in: it says more and counts as full. Else prove '..UptoSaid'. A law counts once. -/
mutual
def uptoBulk {H : Type} : DataW H → Nat
  | .lit (.string bytes) => bytes.length + 1
  | .lit _ => 1
  | .nil => 1
  | .ptr d => uptoBulk d + 1
  | .slice elems spare => uptoBulkAll elems + uptoBulkAll spare + 1
  | .agg parts => uptoBulkAll parts + 1
  | .iface _ d => uptoBulk d + 1
  | .map entries => uptoBulkEntries entries + 1
  | .held _ => 1
def uptoBulkAll {H : Type} : List (DataW H) → Nat
  | [] => 0
  | d :: r => uptoBulk d + uptoBulkAll r
def uptoBulkEntries {H : Type} : List (Lit × DataW H) → Nat
  | [] => 0
  | x :: r => uptoBulkEntry x + uptoBulkEntries r
def uptoBulkEntry {H : Type} : Lit × DataW H → Nat
  | (.string bytes, d) => bytes.length + uptoBulk d + 1
  | (_, d) => uptoBulk d + 1
 end
def uptoSmall : (H : Type) → List (DataW H) → Bool := fun _ ds => decide (uptoBulkAll ds ≤ 1048576)
def OpenSpec.upto (s : _root_.Go.ChangeSpec) : _root_.Go.OpenSpec := { _root_.Go.OpenSpec.ofChange s with cond := some uptoSmall }

/-- 'remontoirelaw10.ParseWords', WHERE WHAT IT READS IS OF BULK AT MOST 1048576: true; the input reads as it did. -/
def parseWordsUptoRow : OpenClaim := { program := "ytolhahlnccekcaadoor", sum := "0bb990de573b298fc4373b8b78192d63b5a2f85d723b2b865b41edaef840af84", func := "remontoire/remontoirelaw10.ParseWords", spec := "parseWords", inPlace := ["internal/bytealg.IndexByteString"], unfollowed := true, recurses := true, named := ["remontoire/lex.signs", "remontoire/parse.words", "remontoire/parse.levels"], apart := false, laid := [("remontoire/lex.signs", laid_remontoire_lex_signs), ("remontoire/parse.words", laid_remontoire_parse_words), ("remontoire/parse.levels", laid_remontoire_parse_levels)], narrowed := true }
def ParseWordsUptoSaid : Prop := parseWordsUptoRow.holds Tryd.pinned (OpenSpec.upto parseWordsSpec)

/-- 'remontoirelaw10.ParseLevels', WHERE WHAT IT READS IS OF BULK AT MOST 1048576: true; the input reads as it did. -/
def parseLevelsUptoRow : OpenClaim := { program := "ytolhahlnccekcaadoor", sum := "0bb990de573b298fc4373b8b78192d63b5a2f85d723b2b865b41edaef840af84", func := "remontoire/remontoirelaw10.ParseLevels", spec := "parseLevels", inPlace := ["internal/bytealg.IndexByteString"], unfollowed := true, recurses := true, named := ["remontoire/lex.signs", "remontoire/parse.words", "remontoire/parse.levels"], apart := false, laid := [("remontoire/lex.signs", laid_remontoire_lex_signs), ("remontoire/parse.words", laid_remontoire_parse_words), ("remontoire/parse.levels", laid_remontoire_parse_levels)], narrowed := true }
def ParseLevelsUptoSaid : Prop := parseLevelsUptoRow.holds Tryd.pinned (OpenSpec.upto parseLevelsSpec)

/-- 'remontoirelaw10.ParseTrees', WHERE WHAT IT READS IS OF BULK AT MOST 1048576: true; the input reads as it did. -/
def parseTreesUptoRow : OpenClaim := { program := "ytolhahlnccekcaadoor", sum := "0bb990de573b298fc4373b8b78192d63b5a2f85d723b2b865b41edaef840af84", func := "remontoire/remontoirelaw10.ParseTrees", spec := "parseTrees", inPlace := ["internal/bytealg.IndexByteString"], unfollowed := true, recurses := true, named := ["remontoire/lex.signs", "remontoire/parse.words", "remontoire/parse.levels"], apart := false, laid := [("remontoire/lex.signs", laid_remontoire_lex_signs), ("remontoire/parse.words", laid_remontoire_parse_words), ("remontoire/parse.levels", laid_remontoire_parse_levels)], narrowed := true }
def ParseTreesUptoSaid : Prop := parseTreesUptoRow.holds Tryd.pinned (OpenSpec.upto parseTreesSpec)

/-- 'remontoirelaw10.ParseSame', WHERE WHAT IT READS IS OF BULK AT MOST 1048576: true; the input reads as it did. -/
def parseSameUptoRow : OpenClaim := { program := "ytolhahlnccekcaadoor", sum := "0bb990de573b298fc4373b8b78192d63b5a2f85d723b2b865b41edaef840af84", func := "remontoire/remontoirelaw10.ParseSame", spec := "parseSame", inPlace := ["internal/bytealg.IndexByteString"], unfollowed := true, recurses := true, named := ["remontoire/lex.signs", "remontoire/parse.words", "remontoire/parse.levels"], apart := false, laid := [("remontoire/lex.signs", laid_remontoire_lex_signs), ("remontoire/parse.words", laid_remontoire_parse_words), ("remontoire/parse.levels", laid_remontoire_parse_levels)], narrowed := true }
def ParseSameUptoSaid : Prop := parseSameUptoRow.holds Tryd.pinned (OpenSpec.upto parseSameSpec)

/-- 'remontoirelaw10.ParseJoins', WHERE WHAT IT READS IS OF BULK AT MOST 1048576: true; the input reads as it did. -/
def parseJoinsUptoRow : OpenClaim := { program := "ytolhahlnccekcaadoor", sum := "0bb990de573b298fc4373b8b78192d63b5a2f85d723b2b865b41edaef840af84", func := "remontoire/remontoirelaw10.ParseJoins", spec := "parseJoins", inPlace := ["internal/bytealg.IndexByteString"], unfollowed := true, recurses := true, named := ["remontoire/lex.signs", "remontoire/parse.words", "remontoire/parse.levels"], apart := false, laid := [("remontoire/lex.signs", laid_remontoire_lex_signs), ("remontoire/parse.words", laid_remontoire_parse_words), ("remontoire/parse.levels", laid_remontoire_parse_levels)], narrowed := true }
def ParseJoinsUptoSaid : Prop := parseJoinsUptoRow.holds Tryd.pinned (OpenSpec.upto parseJoinsSpec)

/-- 'remontoirelaw10.ParseShows', WHERE WHAT IT READS IS OF BULK AT MOST 1048576: true; the input reads as it did. -/
def parseShowsUptoRow : OpenClaim := { program := "ytolhahlnccekcaadoor", sum := "0bb990de573b298fc4373b8b78192d63b5a2f85d723b2b865b41edaef840af84", func := "remontoire/remontoirelaw10.ParseShows", spec := "parseShows", inPlace := ["internal/bytealg.IndexByteString", "internal/abi.NoEscape", "internal/bytealg.MakeNoZero"], unfollowed := true, recurses := true, named := ["remontoire/lex.signs", "remontoire/parse.words", "remontoire/parse.levels", "remontoire/parse.kinds", "internal/strconv.uint64pow10", "math/bits.deBruijn32tab", "math/bits.deBruijn64tab"], apart := false, laid := [("math/bits.deBruijn32tab", laid_math_bits_deBruijn32tab), ("math/bits.deBruijn64tab", laid_math_bits_deBruijn64tab), ("internal/strconv.uint64pow10", laid_internal_strconv_uint64pow10), ("remontoire/lex.signs", laid_remontoire_lex_signs), ("remontoire/parse.words", laid_remontoire_parse_words), ("remontoire/parse.levels", laid_remontoire_parse_levels), ("remontoire/parse.kinds", laid_remontoire_parse_kinds)], narrowed := true }
def ParseShowsUptoSaid : Prop := parseShowsUptoRow.holds Tryd.pinned (OpenSpec.upto parseShowsSpec)

/-- 'remontoirelaw12.CheckNumbers', WHERE WHAT IT READS IS OF BULK AT MOST 1048576: true; the input reads as it did. -/
def checkNumbersUptoRow : OpenClaim := { program := "ytolhahlnccekcaadoor", sum := "0bb990de573b298fc4373b8b78192d63b5a2f85d723b2b865b41edaef840af84", func := "remontoire/remontoirelaw12.CheckNumbers", spec := "checkNumbers", inPlace := ["internal/bytealg.IndexByteString"], unfollowed := true, recurses := true, named := ["remontoire/lex.signs", "remontoire/parse.words", "remontoire/parse.levels", "remontoire/check.built"], apart := false, laid := [("remontoire/lex.signs", laid_remontoire_lex_signs), ("remontoire/parse.words", laid_remontoire_parse_words), ("remontoire/parse.levels", laid_remontoire_parse_levels), ("remontoire/check.built", laid_remontoire_check_built)], narrowed := true }
def CheckNumbersUptoSaid : Prop := checkNumbersUptoRow.holds Tryd.pinned (OpenSpec.upto checkNumbersSpec)

/-- 'remontoirelaw12.CheckFinds', WHERE WHAT IT READS IS OF BULK AT MOST 1048576: true; the input reads as it did. -/
def checkFindsUptoRow : OpenClaim := { program := "ytolhahlnccekcaadoor", sum := "0bb990de573b298fc4373b8b78192d63b5a2f85d723b2b865b41edaef840af84", func := "remontoire/remontoirelaw12.CheckFinds", spec := "checkFinds", inPlace := ["internal/bytealg.IndexByteString"], unfollowed := true, recurses := true, named := ["remontoire/lex.signs", "remontoire/parse.words", "remontoire/parse.levels", "remontoire/check.built"], apart := false, laid := [("remontoire/lex.signs", laid_remontoire_lex_signs), ("remontoire/parse.words", laid_remontoire_parse_words), ("remontoire/parse.levels", laid_remontoire_parse_levels), ("remontoire/check.built", laid_remontoire_check_built)], narrowed := true }
def CheckFindsUptoSaid : Prop := checkFindsUptoRow.holds Tryd.pinned (OpenSpec.upto checkFindsSpec)

end Rows
end Go.Proofs.YtolhahlnccekcaaDoor
