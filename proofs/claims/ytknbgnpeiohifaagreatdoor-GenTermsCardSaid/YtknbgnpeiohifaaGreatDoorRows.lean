/-
  NARROWER THAN 'FOR EVERY INPUT', by the rows' own cells (each row's printed sentence says how): FlatRows: laid · ClosedTraces: laid · GenTerms: laid · GenRight: laid · GenMeans: laid.
  DERIVED. THE GIVEN ROWS OF THIS SEAT. 5 by the template 'for every input the law returns true; each argument reads behind the call as it read before'; 0 by the template 'total and deterministic' (their statements: YtknbgnpeiohifaaGreatDoorTotals.lean).
  GIVEN WITH THE SEED: the statements are not yours to turn. If you find one false, say at which input.
  Laid BY PROGRAM, IN A SANDBOX (cutbox-rows.mjs): the forced cells as the released guide's own fill.sh prints them over the translation 39ab2ffe6dd9a51f… (all of the seat's roots in one cut). By AI agents, Wed Nov 11 2026. No macro, syntax, notation, axiom, sorry.
-/
import Derived.Test.YtknbgnpeiohifaaGreatDoorChecked
import GoSem.Claim
import GoSem.ClaimJoined
import GoSem.ClaimMapViews
import Derived.JoinedTies
import Derived.KernelRfl
namespace Go.Proofs.YtknbgnpeiohifaaGreatDoor
/- THE CELL 'sum', in the pinned program and in every row, IS THE sha256 OF THE DUMP (.gsa) THAT YtknbgnpeiohifaaGreatDoorProg.lean LOADS. Nothing in Lean hashes anything: it is a label: what it is worth is what the hold of that sum in a sandbox is worth. -/
noncomputable def Tryz.pinned : Pinned := { name := "ytknbgnpeiohifaagreatdoor", sum := "39ab2ffe6dd9a51f00909a74fb9c3314020ca24992a847d7f7bbd61734a41cd3", checked := Tryz.checked }
namespace Rows
def none {H : Type} : Left H := { results := [], args := [] }

/- WHAT THE LISTED PACKAGE-LEVEL VARIABLES READ AS WHEN THE CALL BEGINS. Each datum BY PROGRAM (the guide's laid-datum.mjs) off the statement by which the dump's own 'gosem.cut.vars' lays the variable. In a bare row this is a premise. The card (YtknbgnpeiohifaaGreatDoorCards.lean) ties it to the program's text. -/
def laid_remontoire_lex_signs {H : Type} : DataW H := .agg [.lit (.string [45, 62]), .lit (.string [46, 46]), .lit (.string [61, 61]), .lit (.string [60, 60, 60]), .lit (.string [60, 60]), .lit (.string [62, 62]), .lit (.string [60]), .lit (.string [40]), .lit (.string [41]), .lit (.string [123]), .lit (.string [125]), .lit (.string [91]), .lit (.string [93]), .lit (.string [44]), .lit (.string [59]), .lit (.string [58]), .lit (.string [61]), .lit (.string [43]), .lit (.string [45]), .lit (.string [42]), .lit (.string [47]), .lit (.string [37]), .lit (.string [38]), .lit (.string [124]), .lit (.string [94]), .lit (.string [126])]
def laid_remontoire_parse_words {H : Type} : DataW H := .agg [.lit (.string [102, 110]), .lit (.string [101, 120, 112, 111, 114, 116]), .lit (.string [108, 101, 116]), .lit (.string [118, 97, 114]), .lit (.string [97, 114, 114]), .lit (.string [105, 102]), .lit (.string [101, 108, 115, 101]), .lit (.string [102, 111, 114]), .lit (.string [105, 110]), .lit (.string [114, 101, 116, 117, 114, 110]), .lit (.string [112, 117, 98]), .lit (.string [117, 51, 50]), .lit (.string [117, 54, 52])]
def laid_remontoire_parse_levels {H : Type} : DataW H := .agg [.agg [.lit (.string [124]), .lit (.string []), .lit (.string [])], .agg [.lit (.string [94]), .lit (.string []), .lit (.string [])], .agg [.lit (.string [38]), .lit (.string []), .lit (.string [])], .agg [.lit (.string [61, 61]), .lit (.string [60]), .lit (.string [])], .agg [.lit (.string [60, 60]), .lit (.string [62, 62]), .lit (.string [60, 60, 60])], .agg [.lit (.string [43]), .lit (.string [45]), .lit (.string [])], .agg [.lit (.string [42]), .lit (.string [47]), .lit (.string [37])]]
def laid_remontoire_check_built {H : Type} : DataW H := .agg [.agg [.lit (.string [115, 101, 108, 101, 99, 116]), .lit (.int .i64 3)], .agg [.lit (.string [108, 111, 110, 103]), .lit (.int .i64 1)], .agg [.lit (.string [108, 111]), .lit (.int .i64 1)], .agg [.lit (.string [104, 105]), .lit (.int .i64 1)], .agg [.lit (.string [119, 105, 100, 101]), .lit (.int .i64 2)]]
def laid_remontoire_term_all {H : Type} : DataW H := .agg [.lit (.int .u32 0), .lit (.int .u32 4294967295)]
def laid_remontoire_interp_ops {H : Type} : DataW H := .agg [.agg [.lit (.string [124]), .lit (.int .i64 5)], .agg [.lit (.string [94]), .lit (.int .i64 6)], .agg [.lit (.string [38]), .lit (.int .i64 7)], .agg [.lit (.string [61, 61]), .lit (.int .i64 8)], .agg [.lit (.string [60]), .lit (.int .i64 9)], .agg [.lit (.string [60, 60]), .lit (.int .i64 10)], .agg [.lit (.string [62, 62]), .lit (.int .i64 11)], .agg [.lit (.string [60, 60, 60]), .lit (.int .i64 12)], .agg [.lit (.string [43]), .lit (.int .i64 13)], .agg [.lit (.string [45]), .lit (.int .i64 14)], .agg [.lit (.string [42]), .lit (.int .i64 15)], .agg [.lit (.string [47]), .lit (.int .i64 16)], .agg [.lit (.string [37]), .lit (.int .i64 17)], .agg [.lit (.string [110, 111, 116]), .lit (.int .i64 3)], .agg [.lit (.string [110, 101, 103]), .lit (.int .i64 4)]]
def laid_remontoire_vop_rows {H : Type} : DataW H := .agg [.agg [.lit (.int .i64 0), .lit (.int .i64 0)], .agg [.lit (.int .i64 1), .lit (.int .i64 0)], .agg [.lit (.int .i64 1), .lit (.int .i64 0)], .agg [.lit (.int .i64 0), .lit (.int .i64 1)], .agg [.lit (.int .i64 1), .lit (.int .i64 0)], .agg [.lit (.int .i64 1), .lit (.int .i64 2)], .agg [.lit (.int .i64 0), .lit (.int .i64 3)], .agg [.lit (.int .i64 1), .lit (.int .i64 2)], .agg [.lit (.int .i64 1), .lit (.int .i64 2)], .agg [.lit (.int .i64 1), .lit (.int .i64 2)], .agg [.lit (.int .i64 1), .lit (.int .i64 2)], .agg [.lit (.int .i64 1), .lit (.int .i64 2)], .agg [.lit (.int .i64 1), .lit (.int .i64 2)], .agg [.lit (.int .i64 1), .lit (.int .i64 2)], .agg [.lit (.int .i64 1), .lit (.int .i64 2)], .agg [.lit (.int .i64 1), .lit (.int .i64 2)], .agg [.lit (.int .i64 1), .lit (.int .i64 1)], .agg [.lit (.int .i64 1), .lit (.int .i64 1)], .agg [.lit (.int .i64 1), .lit (.int .i64 1)], .agg [.lit (.int .i64 1), .lit (.int .i64 1)], .agg [.lit (.int .i64 1), .lit (.int .i64 1)], .agg [.lit (.int .i64 1), .lit (.int .i64 2)], .agg [.lit (.int .i64 1), .lit (.int .i64 2)], .agg [.lit (.int .i64 2), .lit (.int .i64 4)], .agg [.lit (.int .i64 2), .lit (.int .i64 4)], .agg [.lit (.int .i64 1), .lit (.int .i64 4)], .agg [.lit (.int .i64 2), .lit (.int .i64 2)], .agg [.lit (.int .i64 1), .lit (.int .i64 1)], .agg [.lit (.int .i64 1), .lit (.int .i64 2)], .agg [.lit (.int .i64 1), .lit (.int .i64 3)], .agg [.lit (.int .i64 0), .lit (.int .i64 1)], .agg [.lit (.int .i64 0), .lit (.int .i64 1)]]
def laid_remontoire_gen_simple {H : Type} : DataW H := .agg [.agg [.lit (.string [124]), .lit (.int .i64 8)], .agg [.lit (.string [94]), .lit (.int .i64 9)], .agg [.lit (.string [38]), .lit (.int .i64 7)], .agg [.lit (.string [43]), .lit (.int .i64 10)], .agg [.lit (.string [45]), .lit (.int .i64 11)], .agg [.lit (.string [42]), .lit (.int .i64 12)], .agg [.lit (.string [60]), .lit (.int .i64 21)], .agg [.lit (.string [61, 61]), .lit (.int .i64 22)]]

/-- 'remontoirelaw14.FlatRows': WHATEVER THE INPUT: true; the input reads as it did. -/
def flatRowsSpec : ChangeSpec := { name := "flatRows", fn := fun _ => fun
  | [d1, d2] => { results := [.lit (.bool true)], args := [d1, d2] }
  | _ => none }
def flatRowsRow : OpenClaim := { program := "ytknbgnpeiohifaagreatdoor", sum := "39ab2ffe6dd9a51f00909a74fb9c3314020ca24992a847d7f7bbd61734a41cd3", func := "remontoire/remontoirelaw14.FlatRows", spec := "flatRows", inPlace := ["internal/bytealg.IndexByteString"], unfollowed := true, recurses := true, named := ["remontoire/lex.signs", "remontoire/parse.words", "remontoire/parse.levels", "remontoire/check.built"], apart := false, laid := [("remontoire/lex.signs", laid_remontoire_lex_signs), ("remontoire/parse.words", laid_remontoire_parse_words), ("remontoire/parse.levels", laid_remontoire_parse_levels), ("remontoire/check.built", laid_remontoire_check_built)] }
def FlatRowsSaid : Prop := flatRowsRow.holds Tryz.pinned (OpenSpec.ofChange flatRowsSpec)

/-- ITS FALSE NEIGHBOUR: 'it returns false'. Refute it at one input. -/
def flatRowsWrong : ChangeSpec := { name := "flatRows", fn := fun _ => fun
  | [d1, d2] => { results := [.lit (.bool false)], args := [d1, d2] }
  | _ => none }
def FlatRowsWrongFalsely : Prop := flatRowsRow.holds Tryz.pinned (OpenSpec.ofChange flatRowsWrong)

/-- 'remontoirelaw15.ClosedTraces': WHATEVER THE INPUT: true; the input reads as it did. -/
def closedTracesSpec : ChangeSpec := { name := "closedTraces", fn := fun _ => fun
  | [d1, d2, d3, d4] => { results := [.lit (.bool true)], args := [d1, d2, d3, d4] }
  | _ => none }
def closedTracesRow : OpenClaim := { program := "ytknbgnpeiohifaagreatdoor", sum := "39ab2ffe6dd9a51f00909a74fb9c3314020ca24992a847d7f7bbd61734a41cd3", func := "remontoire/remontoirelaw15.ClosedTraces", spec := "closedTraces", inPlace := ["internal/bytealg.IndexByteString"], unfollowed := true, recurses := true, named := ["remontoire/lex.signs", "remontoire/parse.words", "remontoire/parse.levels", "remontoire/check.built", "remontoire/interp.ops", "remontoire/term.all"], apart := false, laid := [("remontoire/term.all", laid_remontoire_term_all), ("remontoire/lex.signs", laid_remontoire_lex_signs), ("remontoire/parse.words", laid_remontoire_parse_words), ("remontoire/parse.levels", laid_remontoire_parse_levels), ("remontoire/check.built", laid_remontoire_check_built), ("remontoire/interp.ops", laid_remontoire_interp_ops)] }
def ClosedTracesSaid : Prop := closedTracesRow.holds Tryz.pinned (OpenSpec.ofChange closedTracesSpec)

/-- ITS FALSE NEIGHBOUR: 'it returns false'. Refute it at one input. -/
def closedTracesWrong : ChangeSpec := { name := "closedTraces", fn := fun _ => fun
  | [d1, d2, d3, d4] => { results := [.lit (.bool false)], args := [d1, d2, d3, d4] }
  | _ => none }
def ClosedTracesWrongFalsely : Prop := closedTracesRow.holds Tryz.pinned (OpenSpec.ofChange closedTracesWrong)

/-- 'remontoirelaw20.GenTerms': WHATEVER THE INPUT: true; the input reads as it did. -/
def genTermsSpec : ChangeSpec := { name := "genTerms", fn := fun _ => fun
  | [d1, d2] => { results := [.lit (.bool true)], args := [d1, d2] }
  | _ => none }
def genTermsRow : OpenClaim := { program := "ytknbgnpeiohifaagreatdoor", sum := "39ab2ffe6dd9a51f00909a74fb9c3314020ca24992a847d7f7bbd61734a41cd3", func := "remontoire/remontoirelaw20.GenTerms", spec := "genTerms", inPlace := ["internal/bytealg.IndexByteString"], unfollowed := true, recurses := true, named := ["remontoire/lex.signs", "remontoire/parse.words", "remontoire/parse.levels", "remontoire/check.built", "remontoire/interp.ops", "remontoire/term.all", "remontoire/vop.rows", "remontoire/gen.simple"], apart := false, laid := [("remontoire/term.all", laid_remontoire_term_all), ("remontoire/vop.rows", laid_remontoire_vop_rows), ("remontoire/lex.signs", laid_remontoire_lex_signs), ("remontoire/parse.words", laid_remontoire_parse_words), ("remontoire/parse.levels", laid_remontoire_parse_levels), ("remontoire/check.built", laid_remontoire_check_built), ("remontoire/interp.ops", laid_remontoire_interp_ops), ("remontoire/gen.simple", laid_remontoire_gen_simple)] }
def GenTermsSaid : Prop := genTermsRow.holds Tryz.pinned (OpenSpec.ofChange genTermsSpec)

/-- ITS FALSE NEIGHBOUR: 'it returns false'. Refute it at one input. -/
def genTermsWrong : ChangeSpec := { name := "genTerms", fn := fun _ => fun
  | [d1, d2] => { results := [.lit (.bool false)], args := [d1, d2] }
  | _ => none }
def GenTermsWrongFalsely : Prop := genTermsRow.holds Tryz.pinned (OpenSpec.ofChange genTermsWrong)

/-- 'remontoirelaw20.GenRight': WHATEVER THE INPUT: true; the input reads as it did. -/
def genRightSpec : ChangeSpec := { name := "genRight", fn := fun _ => fun
  | [d1, d2] => { results := [.lit (.bool true)], args := [d1, d2] }
  | _ => none }
def genRightRow : OpenClaim := { program := "ytknbgnpeiohifaagreatdoor", sum := "39ab2ffe6dd9a51f00909a74fb9c3314020ca24992a847d7f7bbd61734a41cd3", func := "remontoire/remontoirelaw20.GenRight", spec := "genRight", inPlace := ["internal/bytealg.IndexByteString"], unfollowed := true, recurses := true, named := ["remontoire/lex.signs", "remontoire/parse.words", "remontoire/parse.levels", "remontoire/check.built", "remontoire/interp.ops", "remontoire/term.all", "remontoire/vop.rows", "remontoire/gen.simple"], apart := false, laid := [("remontoire/term.all", laid_remontoire_term_all), ("remontoire/vop.rows", laid_remontoire_vop_rows), ("remontoire/lex.signs", laid_remontoire_lex_signs), ("remontoire/parse.words", laid_remontoire_parse_words), ("remontoire/parse.levels", laid_remontoire_parse_levels), ("remontoire/check.built", laid_remontoire_check_built), ("remontoire/interp.ops", laid_remontoire_interp_ops), ("remontoire/gen.simple", laid_remontoire_gen_simple)] }
def GenRightSaid : Prop := genRightRow.holds Tryz.pinned (OpenSpec.ofChange genRightSpec)

/-- ITS FALSE NEIGHBOUR: 'it returns false'. Refute it at one input. -/
def genRightWrong : ChangeSpec := { name := "genRight", fn := fun _ => fun
  | [d1, d2] => { results := [.lit (.bool false)], args := [d1, d2] }
  | _ => none }
def GenRightWrongFalsely : Prop := genRightRow.holds Tryz.pinned (OpenSpec.ofChange genRightWrong)

/-- 'remontoirelaw20.GenMeans': WHATEVER THE INPUT: true; the input reads as it did. -/
def genMeansSpec : ChangeSpec := { name := "genMeans", fn := fun _ => fun
  | [d1, d2, d3, d4] => { results := [.lit (.bool true)], args := [d1, d2, d3, d4] }
  | _ => none }
def genMeansRow : OpenClaim := { program := "ytknbgnpeiohifaagreatdoor", sum := "39ab2ffe6dd9a51f00909a74fb9c3314020ca24992a847d7f7bbd61734a41cd3", func := "remontoire/remontoirelaw20.GenMeans", spec := "genMeans", inPlace := ["internal/bytealg.IndexByteString"], unfollowed := true, recurses := true, named := ["remontoire/lex.signs", "remontoire/parse.words", "remontoire/parse.levels", "remontoire/check.built", "remontoire/interp.ops", "remontoire/term.all", "remontoire/vop.rows", "remontoire/gen.simple"], apart := false, laid := [("remontoire/term.all", laid_remontoire_term_all), ("remontoire/vop.rows", laid_remontoire_vop_rows), ("remontoire/lex.signs", laid_remontoire_lex_signs), ("remontoire/parse.words", laid_remontoire_parse_words), ("remontoire/parse.levels", laid_remontoire_parse_levels), ("remontoire/check.built", laid_remontoire_check_built), ("remontoire/interp.ops", laid_remontoire_interp_ops), ("remontoire/gen.simple", laid_remontoire_gen_simple)] }
def GenMeansSaid : Prop := genMeansRow.holds Tryz.pinned (OpenSpec.ofChange genMeansSpec)

/-- ITS FALSE NEIGHBOUR: 'it returns false'. Refute it at one input. -/
def genMeansWrong : ChangeSpec := { name := "genMeans", fn := fun _ => fun
  | [d1, d2, d3, d4] => { results := [.lit (.bool false)], args := [d1, d2, d3, d4] }
  | _ => none }
def GenMeansWrongFalsely : Prop := genMeansRow.holds Tryz.pinned (OpenSpec.ofChange genMeansWrong)

/- THE SECOND FORM. 'bulk': how many values and letters a reading holds, each counted each time it is reached (what is shared counts as often as it is met; a slice's spare places count too). A statement '..UptoSaid' is the law's where the arguments, and the package variables that the reading takes, are together of bulk at most 1048576: NARROWER than '..Said'. Prove '..Said' where nothing that the law and all that it calls make is longer than what came in: it says more and counts as full. Else prove '..UptoSaid'. A law counts once. -/
mutual
def uptoBulk {H : Type} : DataW H → Nat
  | .lit (.string bytes) => bytes.length + 1
  | .lit _ => 1
  | .nil => 1
  | .ptr d => uptoBulk d + 1
  | .slice elems spare => uptoBulkAll elems + uptoBulkAll spare + 1
  | .agg parts => uptoBulkAll parts + 1
  | .iface _ d => uptoBulk d + 1
  | .map entries => uptoBulkEntries entries + 1
  | .held _ => 1
def uptoBulkAll {H : Type} : List (DataW H) → Nat
  | [] => 0
  | d :: r => uptoBulk d + uptoBulkAll r
def uptoBulkEntries {H : Type} : List (Lit × DataW H) → Nat
  | [] => 0
  | x :: r => uptoBulkEntry x + uptoBulkEntries r
def uptoBulkEntry {H : Type} : Lit × DataW H → Nat
  | (.string bytes, d) => bytes.length + uptoBulk d + 1
  | (_, d) => uptoBulk d + 1
 end
def uptoSmall : (H : Type) → List (DataW H) → Bool := fun _ ds => decide (uptoBulkAll ds ≤ 1048576)
def OpenSpec.upto (s : _root_.Go.ChangeSpec) : _root_.Go.OpenSpec := { _root_.Go.OpenSpec.ofChange s with cond := some uptoSmall }

/-- 'remontoirelaw14.FlatRows', WHERE WHAT IT READS IS OF BULK AT MOST 1048576: true; the input reads as it did. -/
def flatRowsUptoRow : OpenClaim := { program := "ytknbgnpeiohifaagreatdoor", sum := "39ab2ffe6dd9a51f00909a74fb9c3314020ca24992a847d7f7bbd61734a41cd3", func := "remontoire/remontoirelaw14.FlatRows", spec := "flatRows", inPlace := ["internal/bytealg.IndexByteString"], unfollowed := true, recurses := true, named := ["remontoire/lex.signs", "remontoire/parse.words", "remontoire/parse.levels", "remontoire/check.built"], apart := false, laid := [("remontoire/lex.signs", laid_remontoire_lex_signs), ("remontoire/parse.words", laid_remontoire_parse_words), ("remontoire/parse.levels", laid_remontoire_parse_levels), ("remontoire/check.built", laid_remontoire_check_built)], narrowed := true }
def FlatRowsUptoSaid : Prop := flatRowsUptoRow.holds Tryz.pinned (OpenSpec.upto flatRowsSpec)

/-- 'remontoirelaw15.ClosedTraces', WHERE WHAT IT READS IS OF BULK AT MOST 1048576: true; the input reads as it did. -/
def closedTracesUptoRow : OpenClaim := { program := "ytknbgnpeiohifaagreatdoor", sum := "39ab2ffe6dd9a51f00909a74fb9c3314020ca24992a847d7f7bbd61734a41cd3", func := "remontoire/remontoirelaw15.ClosedTraces", spec := "closedTraces", inPlace := ["internal/bytealg.IndexByteString"], unfollowed := true, recurses := true, named := ["remontoire/lex.signs", "remontoire/parse.words", "remontoire/parse.levels", "remontoire/check.built", "remontoire/interp.ops", "remontoire/term.all"], apart := false, laid := [("remontoire/term.all", laid_remontoire_term_all), ("remontoire/lex.signs", laid_remontoire_lex_signs), ("remontoire/parse.words", laid_remontoire_parse_words), ("remontoire/parse.levels", laid_remontoire_parse_levels), ("remontoire/check.built", laid_remontoire_check_built), ("remontoire/interp.ops", laid_remontoire_interp_ops)], narrowed := true }
def ClosedTracesUptoSaid : Prop := closedTracesUptoRow.holds Tryz.pinned (OpenSpec.upto closedTracesSpec)

/-- 'remontoirelaw20.GenTerms', WHERE WHAT IT READS IS OF BULK AT MOST 1048576: true; the input reads as it did. -/
def genTermsUptoRow : OpenClaim := { program := "ytknbgnpeiohifaagreatdoor", sum := "39ab2ffe6dd9a51f00909a74fb9c3314020ca24992a847d7f7bbd61734a41cd3", func := "remontoire/remontoirelaw20.GenTerms", spec := "genTerms", inPlace := ["internal/bytealg.IndexByteString"], unfollowed := true, recurses := true, named := ["remontoire/lex.signs", "remontoire/parse.words", "remontoire/parse.levels", "remontoire/check.built", "remontoire/interp.ops", "remontoire/term.all", "remontoire/vop.rows", "remontoire/gen.simple"], apart := false, laid := [("remontoire/term.all", laid_remontoire_term_all), ("remontoire/vop.rows", laid_remontoire_vop_rows), ("remontoire/lex.signs", laid_remontoire_lex_signs), ("remontoire/parse.words", laid_remontoire_parse_words), ("remontoire/parse.levels", laid_remontoire_parse_levels), ("remontoire/check.built", laid_remontoire_check_built), ("remontoire/interp.ops", laid_remontoire_interp_ops), ("remontoire/gen.simple", laid_remontoire_gen_simple)], narrowed := true }
def GenTermsUptoSaid : Prop := genTermsUptoRow.holds Tryz.pinned (OpenSpec.upto genTermsSpec)

/-- 'remontoirelaw20.GenRight', WHERE WHAT IT READS IS OF BULK AT MOST 1048576: true; the input reads as it did. -/
def genRightUptoRow : OpenClaim := { program := "ytknbgnpeiohifaagreatdoor", sum := "39ab2ffe6dd9a51f00909a74fb9c3314020ca24992a847d7f7bbd61734a41cd3", func := "remontoire/remontoirelaw20.GenRight", spec := "genRight", inPlace := ["internal/bytealg.IndexByteString"], unfollowed := true, recurses := true, named := ["remontoire/lex.signs", "remontoire/parse.words", "remontoire/parse.levels", "remontoire/check.built", "remontoire/interp.ops", "remontoire/term.all", "remontoire/vop.rows", "remontoire/gen.simple"], apart := false, laid := [("remontoire/term.all", laid_remontoire_term_all), ("remontoire/vop.rows", laid_remontoire_vop_rows), ("remontoire/lex.signs", laid_remontoire_lex_signs), ("remontoire/parse.words", laid_remontoire_parse_words), ("remontoire/parse.levels", laid_remontoire_parse_levels), ("remontoire/check.built", laid_remontoire_check_built), ("remontoire/interp.ops", laid_remontoire_interp_ops), ("remontoire/gen.simple", laid_remontoire_gen_simple)], narrowed := true }
def GenRightUptoSaid : Prop := genRightUptoRow.holds Tryz.pinned (OpenSpec.upto genRightSpec)

/-- 'remontoirelaw20.GenMeans', WHERE WHAT IT READS IS OF BULK AT MOST 1048576: true; the input reads as it did. -/
def genMeansUptoRow : OpenClaim := { program := "ytknbgnpeiohifaagreatdoor", sum := "39ab2ffe6dd9a51f00909a74fb9c3314020ca24992a847d7f7bbd61734a41cd3", func := "remontoire/remontoirelaw20.GenMeans", spec := "genMeans", inPlace := ["internal/bytealg.IndexByteString"], unfollowed := true, recurses := true, named := ["remontoire/lex.signs", "remontoire/parse.words", "remontoire/parse.levels", "remontoire/check.built", "remontoire/interp.ops", "remontoire/term.all", "remontoire/vop.rows", "remontoire/gen.simple"], apart := false, laid := [("remontoire/term.all", laid_remontoire_term_all), ("remontoire/vop.rows", laid_remontoire_vop_rows), ("remontoire/lex.signs", laid_remontoire_lex_signs), ("remontoire/parse.words", laid_remontoire_parse_words), ("remontoire/parse.levels", laid_remontoire_parse_levels), ("remontoire/check.built", laid_remontoire_check_built), ("remontoire/interp.ops", laid_remontoire_interp_ops), ("remontoire/gen.simple", laid_remontoire_gen_simple)], narrowed := true }
def GenMeansUptoSaid : Prop := genMeansUptoRow.holds Tryz.pinned (OpenSpec.upto genMeansSpec)

end Rows
end Go.Proofs.YtknbgnpeiohifaaGreatDoor
