/-
  NARROWER THAN 'FOR EVERY INPUT', by the rows' own cells (each row's printed sentence says how): CheckPublic: laid · CheckBehind: laid · FlatRows: laid · FlatTwice: laid · FlatPlain: laid · InterpFuel: laid · InterpLongs: laid · InterpOps: laid · InterpPublic: laid · FlatMeans: laid.
  DERIVED. THE GIVEN ROWS OF THIS SEAT. 10 by the template 'for every input the law returns true; each argument reads behind the call as it read before'; 0 by the template 'total and deterministic' (their statements: YtldnmmnnohnpkaaGreatDoorTotals.lean).
  GIVEN WITH THE SEED: the statements are not yours to turn. If you find one false, say at which input.
  Laid BY PROGRAM, IN A SANDBOX (cutbox-rows.mjs): the forced cells as the released guide's own fill.sh prints them over the translation 5f18d8dc2ff22418… (all of the seat's roots in one cut). By AI agents, Wed Nov 11 2026. No macro, syntax, notation, axiom, sorry.
-/
import Derived.Test.YtldnmmnnohnpkaaGreatDoorChecked
import GoSem.Claim
import GoSem.ClaimJoined
import GoSem.ClaimMapViews
import Derived.JoinedTies
import Derived.KernelRfl
namespace Go.Proofs.YtldnmmnnohnpkaaGreatDoor
/- THE CELL 'sum', in the pinned program and in every row, IS THE sha256 OF THE DUMP (.gsa) THAT YtldnmmnnohnpkaaGreatDoorProg.lean LOADS. Nothing in Lean hashes anything: it is a label: what it is worth is what the hold of that sum in a sandbox is worth. -/
noncomputable def Tryz.pinned : Pinned := { name := "ytldnmmnnohnpkaagreatdoor", sum := "5f18d8dc2ff224181702a802435ccdc93b7375ea30e5a7e6ad5c080a9f64700c", checked := Tryz.checked }
namespace Rows
def none {H : Type} : Left H := { results := [], args := [] }

/- WHAT THE LISTED PACKAGE-LEVEL VARIABLES READ AS WHEN THE CALL BEGINS. Each datum BY PROGRAM (the guide's laid-datum.mjs) off the statement by which the dump's own 'gosem.cut.vars' lays the variable. In a bare row this is a premise. The card (YtldnmmnnohnpkaaGreatDoorCards.lean) ties it to the program's text. -/
def laid_remontoire_lex_signs {H : Type} : DataW H := .agg [.lit (.string [45, 62]), .lit (.string [46, 46]), .lit (.string [61, 61]), .lit (.string [60, 60, 60]), .lit (.string [60, 60]), .lit (.string [62, 62]), .lit (.string [60]), .lit (.string [40]), .lit (.string [41]), .lit (.string [123]), .lit (.string [125]), .lit (.string [91]), .lit (.string [93]), .lit (.string [44]), .lit (.string [59]), .lit (.string [58]), .lit (.string [61]), .lit (.string [43]), .lit (.string [45]), .lit (.string [42]), .lit (.string [47]), .lit (.string [37]), .lit (.string [38]), .lit (.string [124]), .lit (.string [94]), .lit (.string [126])]
def laid_remontoire_parse_words {H : Type} : DataW H := .agg [.lit (.string [102, 110]), .lit (.string [101, 120, 112, 111, 114, 116]), .lit (.string [108, 101, 116]), .lit (.string [118, 97, 114]), .lit (.string [97, 114, 114]), .lit (.string [105, 102]), .lit (.string [101, 108, 115, 101]), .lit (.string [102, 111, 114]), .lit (.string [105, 110]), .lit (.string [114, 101, 116, 117, 114, 110]), .lit (.string [112, 117, 98]), .lit (.string [117, 51, 50]), .lit (.string [117, 54, 52])]
def laid_remontoire_parse_levels {H : Type} : DataW H := .agg [.agg [.lit (.string [124]), .lit (.string []), .lit (.string [])], .agg [.lit (.string [94]), .lit (.string []), .lit (.string [])], .agg [.lit (.string [38]), .lit (.string []), .lit (.string [])], .agg [.lit (.string [61, 61]), .lit (.string [60]), .lit (.string [])], .agg [.lit (.string [60, 60]), .lit (.string [62, 62]), .lit (.string [60, 60, 60])], .agg [.lit (.string [43]), .lit (.string [45]), .lit (.string [])], .agg [.lit (.string [42]), .lit (.string [47]), .lit (.string [37])]]
def laid_remontoire_check_built {H : Type} : DataW H := .agg [.agg [.lit (.string [115, 101, 108, 101, 99, 116]), .lit (.int .i64 3)], .agg [.lit (.string [108, 111, 110, 103]), .lit (.int .i64 1)], .agg [.lit (.string [108, 111]), .lit (.int .i64 1)], .agg [.lit (.string [104, 105]), .lit (.int .i64 1)], .agg [.lit (.string [119, 105, 100, 101]), .lit (.int .i64 2)]]
def laid_remontoire_interp_ops {H : Type} : DataW H := .agg [.agg [.lit (.string [124]), .lit (.int .i64 5)], .agg [.lit (.string [94]), .lit (.int .i64 6)], .agg [.lit (.string [38]), .lit (.int .i64 7)], .agg [.lit (.string [61, 61]), .lit (.int .i64 8)], .agg [.lit (.string [60]), .lit (.int .i64 9)], .agg [.lit (.string [60, 60]), .lit (.int .i64 10)], .agg [.lit (.string [62, 62]), .lit (.int .i64 11)], .agg [.lit (.string [60, 60, 60]), .lit (.int .i64 12)], .agg [.lit (.string [43]), .lit (.int .i64 13)], .agg [.lit (.string [45]), .lit (.int .i64 14)], .agg [.lit (.string [42]), .lit (.int .i64 15)], .agg [.lit (.string [47]), .lit (.int .i64 16)], .agg [.lit (.string [37]), .lit (.int .i64 17)], .agg [.lit (.string [110, 111, 116]), .lit (.int .i64 3)], .agg [.lit (.string [110, 101, 103]), .lit (.int .i64 4)]]

/-- 'remontoirelaw12.CheckPublic': WHATEVER THE INPUT: true; the input reads as it did. -/
def checkPublicSpec : ChangeSpec := { name := "checkPublic", fn := fun _ => fun
  | [d] => { results := [.lit (.bool true)], args := [d] }
  | _ => none }
def checkPublicRow : OpenClaim := { program := "ytldnmmnnohnpkaagreatdoor", sum := "5f18d8dc2ff224181702a802435ccdc93b7375ea30e5a7e6ad5c080a9f64700c", func := "remontoire/remontoirelaw12.CheckPublic", spec := "checkPublic", inPlace := ["internal/bytealg.IndexByteString"], unfollowed := true, recurses := true, named := ["remontoire/lex.signs", "remontoire/parse.words", "remontoire/parse.levels", "remontoire/check.built"], apart := false, laid := [("remontoire/lex.signs", laid_remontoire_lex_signs), ("remontoire/parse.words", laid_remontoire_parse_words), ("remontoire/parse.levels", laid_remontoire_parse_levels), ("remontoire/check.built", laid_remontoire_check_built)] }
def CheckPublicSaid : Prop := checkPublicRow.holds Tryz.pinned (OpenSpec.ofChange checkPublicSpec)

/-- ITS FALSE NEIGHBOUR: 'it returns false'. Refute it at one input. -/
def checkPublicWrong : ChangeSpec := { name := "checkPublic", fn := fun _ => fun
  | [d] => { results := [.lit (.bool false)], args := [d] }
  | _ => none }
def CheckPublicWrongFalsely : Prop := checkPublicRow.holds Tryz.pinned (OpenSpec.ofChange checkPublicWrong)

/-- 'remontoirelaw12.CheckBehind': WHATEVER THE INPUT: true; the input reads as it did. -/
def checkBehindSpec : ChangeSpec := { name := "checkBehind", fn := fun _ => fun
  | [d1, d2] => { results := [.lit (.bool true)], args := [d1, d2] }
  | _ => none }
def checkBehindRow : OpenClaim := { program := "ytldnmmnnohnpkaagreatdoor", sum := "5f18d8dc2ff224181702a802435ccdc93b7375ea30e5a7e6ad5c080a9f64700c", func := "remontoire/remontoirelaw12.CheckBehind", spec := "checkBehind", inPlace := ["internal/bytealg.IndexByteString"], unfollowed := true, recurses := true, named := ["remontoire/lex.signs", "remontoire/parse.words", "remontoire/parse.levels", "remontoire/check.built"], apart := false, laid := [("remontoire/lex.signs", laid_remontoire_lex_signs), ("remontoire/parse.words", laid_remontoire_parse_words), ("remontoire/parse.levels", laid_remontoire_parse_levels), ("remontoire/check.built", laid_remontoire_check_built)] }
def CheckBehindSaid : Prop := checkBehindRow.holds Tryz.pinned (OpenSpec.ofChange checkBehindSpec)

/-- ITS FALSE NEIGHBOUR: 'it returns false'. Refute it at one input. -/
def checkBehindWrong : ChangeSpec := { name := "checkBehind", fn := fun _ => fun
  | [d1, d2] => { results := [.lit (.bool false)], args := [d1, d2] }
  | _ => none }
def CheckBehindWrongFalsely : Prop := checkBehindRow.holds Tryz.pinned (OpenSpec.ofChange checkBehindWrong)

/-- 'remontoirelaw14.FlatRows': WHATEVER THE INPUT: true; the input reads as it did. -/
def flatRowsSpec : ChangeSpec := { name := "flatRows", fn := fun _ => fun
  | [d1, d2] => { results := [.lit (.bool true)], args := [d1, d2] }
  | _ => none }
def flatRowsRow : OpenClaim := { program := "ytldnmmnnohnpkaagreatdoor", sum := "5f18d8dc2ff224181702a802435ccdc93b7375ea30e5a7e6ad5c080a9f64700c", func := "remontoire/remontoirelaw14.FlatRows", spec := "flatRows", inPlace := ["internal/bytealg.IndexByteString"], unfollowed := true, recurses := true, named := ["remontoire/lex.signs", "remontoire/parse.words", "remontoire/parse.levels", "remontoire/check.built"], apart := false, laid := [("remontoire/lex.signs", laid_remontoire_lex_signs), ("remontoire/parse.words", laid_remontoire_parse_words), ("remontoire/parse.levels", laid_remontoire_parse_levels), ("remontoire/check.built", laid_remontoire_check_built)] }
def FlatRowsSaid : Prop := flatRowsRow.holds Tryz.pinned (OpenSpec.ofChange flatRowsSpec)

/-- ITS FALSE NEIGHBOUR: 'it returns false'. Refute it at one input. -/
def flatRowsWrong : ChangeSpec := { name := "flatRows", fn := fun _ => fun
  | [d1, d2] => { results := [.lit (.bool false)], args := [d1, d2] }
  | _ => none }
def FlatRowsWrongFalsely : Prop := flatRowsRow.holds Tryz.pinned (OpenSpec.ofChange flatRowsWrong)

/-- 'remontoirelaw14.FlatTwice': WHATEVER THE INPUT: true; the input reads as it did. -/
def flatTwiceSpec : ChangeSpec := { name := "flatTwice", fn := fun _ => fun
  | [d1, d2] => { results := [.lit (.bool true)], args := [d1, d2] }
  | _ => none }
def flatTwiceRow : OpenClaim := { program := "ytldnmmnnohnpkaagreatdoor", sum := "5f18d8dc2ff224181702a802435ccdc93b7375ea30e5a7e6ad5c080a9f64700c", func := "remontoire/remontoirelaw14.FlatTwice", spec := "flatTwice", inPlace := ["internal/bytealg.IndexByteString"], unfollowed := true, recurses := true, named := ["remontoire/lex.signs", "remontoire/parse.words", "remontoire/parse.levels", "remontoire/check.built"], apart := false, laid := [("remontoire/lex.signs", laid_remontoire_lex_signs), ("remontoire/parse.words", laid_remontoire_parse_words), ("remontoire/parse.levels", laid_remontoire_parse_levels), ("remontoire/check.built", laid_remontoire_check_built)] }
def FlatTwiceSaid : Prop := flatTwiceRow.holds Tryz.pinned (OpenSpec.ofChange flatTwiceSpec)

/-- ITS FALSE NEIGHBOUR: 'it returns false'. Refute it at one input. -/
def flatTwiceWrong : ChangeSpec := { name := "flatTwice", fn := fun _ => fun
  | [d1, d2] => { results := [.lit (.bool false)], args := [d1, d2] }
  | _ => none }
def FlatTwiceWrongFalsely : Prop := flatTwiceRow.holds Tryz.pinned (OpenSpec.ofChange flatTwiceWrong)

/-- 'remontoirelaw14.FlatPlain': WHATEVER THE INPUT: true; the input reads as it did. -/
def flatPlainSpec : ChangeSpec := { name := "flatPlain", fn := fun _ => fun
  | [d1, d2] => { results := [.lit (.bool true)], args := [d1, d2] }
  | _ => none }
def flatPlainRow : OpenClaim := { program := "ytldnmmnnohnpkaagreatdoor", sum := "5f18d8dc2ff224181702a802435ccdc93b7375ea30e5a7e6ad5c080a9f64700c", func := "remontoire/remontoirelaw14.FlatPlain", spec := "flatPlain", inPlace := ["internal/bytealg.IndexByteString"], unfollowed := true, recurses := true, named := ["remontoire/lex.signs", "remontoire/parse.words", "remontoire/parse.levels", "remontoire/check.built"], apart := false, laid := [("remontoire/lex.signs", laid_remontoire_lex_signs), ("remontoire/parse.words", laid_remontoire_parse_words), ("remontoire/parse.levels", laid_remontoire_parse_levels), ("remontoire/check.built", laid_remontoire_check_built)] }
def FlatPlainSaid : Prop := flatPlainRow.holds Tryz.pinned (OpenSpec.ofChange flatPlainSpec)

/-- ITS FALSE NEIGHBOUR: 'it returns false'. Refute it at one input. -/
def flatPlainWrong : ChangeSpec := { name := "flatPlain", fn := fun _ => fun
  | [d1, d2] => { results := [.lit (.bool false)], args := [d1, d2] }
  | _ => none }
def FlatPlainWrongFalsely : Prop := flatPlainRow.holds Tryz.pinned (OpenSpec.ofChange flatPlainWrong)

/-- 'remontoirelaw13.InterpFuel': WHATEVER THE INPUT: true; the input reads as it did. -/
def interpFuelSpec : ChangeSpec := { name := "interpFuel", fn := fun _ => fun
  | [d1, d2, d3, d4, d5] => { results := [.lit (.bool true)], args := [d1, d2, d3, d4, d5] }
  | _ => none }
def interpFuelRow : OpenClaim := { program := "ytldnmmnnohnpkaagreatdoor", sum := "5f18d8dc2ff224181702a802435ccdc93b7375ea30e5a7e6ad5c080a9f64700c", func := "remontoire/remontoirelaw13.InterpFuel", spec := "interpFuel", inPlace := ["internal/bytealg.IndexByteString"], unfollowed := true, recurses := true, named := ["remontoire/lex.signs", "remontoire/parse.words", "remontoire/parse.levels", "remontoire/check.built", "remontoire/interp.ops"], apart := false, laid := [("remontoire/lex.signs", laid_remontoire_lex_signs), ("remontoire/parse.words", laid_remontoire_parse_words), ("remontoire/parse.levels", laid_remontoire_parse_levels), ("remontoire/check.built", laid_remontoire_check_built), ("remontoire/interp.ops", laid_remontoire_interp_ops)] }
def InterpFuelSaid : Prop := interpFuelRow.holds Tryz.pinned (OpenSpec.ofChange interpFuelSpec)

/-- ITS FALSE NEIGHBOUR: 'it returns false'. Refute it at one input. -/
def interpFuelWrong : ChangeSpec := { name := "interpFuel", fn := fun _ => fun
  | [d1, d2, d3, d4, d5] => { results := [.lit (.bool false)], args := [d1, d2, d3, d4, d5] }
  | _ => none }
def InterpFuelWrongFalsely : Prop := interpFuelRow.holds Tryz.pinned (OpenSpec.ofChange interpFuelWrong)

/-- 'remontoirelaw13.InterpLongs': WHATEVER THE INPUT: true; the input reads as it did. -/
def interpLongsSpec : ChangeSpec := { name := "interpLongs", fn := fun _ => fun
  | [d1, d2] => { results := [.lit (.bool true)], args := [d1, d2] }
  | _ => none }
def interpLongsRow : OpenClaim := { program := "ytldnmmnnohnpkaagreatdoor", sum := "5f18d8dc2ff224181702a802435ccdc93b7375ea30e5a7e6ad5c080a9f64700c", func := "remontoire/remontoirelaw13.InterpLongs", spec := "interpLongs", inPlace := ["internal/bytealg.IndexByteString"], unfollowed := true, recurses := true, named := ["remontoire/lex.signs", "remontoire/parse.words", "remontoire/parse.levels", "remontoire/check.built", "remontoire/interp.ops"], apart := false, laid := [("remontoire/lex.signs", laid_remontoire_lex_signs), ("remontoire/parse.words", laid_remontoire_parse_words), ("remontoire/parse.levels", laid_remontoire_parse_levels), ("remontoire/check.built", laid_remontoire_check_built), ("remontoire/interp.ops", laid_remontoire_interp_ops)] }
def InterpLongsSaid : Prop := interpLongsRow.holds Tryz.pinned (OpenSpec.ofChange interpLongsSpec)

/-- ITS FALSE NEIGHBOUR: 'it returns false'. Refute it at one input. -/
def interpLongsWrong : ChangeSpec := { name := "interpLongs", fn := fun _ => fun
  | [d1, d2] => { results := [.lit (.bool false)], args := [d1, d2] }
  | _ => none }
def InterpLongsWrongFalsely : Prop := interpLongsRow.holds Tryz.pinned (OpenSpec.ofChange interpLongsWrong)

/-- 'remontoirelaw13.InterpOps': WHATEVER THE INPUT: true; the input reads as it did. -/
def interpOpsSpec : ChangeSpec := { name := "interpOps", fn := fun _ => fun
  | [d] => { results := [.lit (.bool true)], args := [d] }
  | _ => none }
def interpOpsRow : OpenClaim := { program := "ytldnmmnnohnpkaagreatdoor", sum := "5f18d8dc2ff224181702a802435ccdc93b7375ea30e5a7e6ad5c080a9f64700c", func := "remontoire/remontoirelaw13.InterpOps", spec := "interpOps", inPlace := ["internal/bytealg.IndexByteString"], unfollowed := true, recurses := true, named := ["remontoire/lex.signs", "remontoire/parse.words", "remontoire/parse.levels", "remontoire/check.built", "remontoire/interp.ops"], apart := false, laid := [("remontoire/lex.signs", laid_remontoire_lex_signs), ("remontoire/parse.words", laid_remontoire_parse_words), ("remontoire/parse.levels", laid_remontoire_parse_levels), ("remontoire/check.built", laid_remontoire_check_built), ("remontoire/interp.ops", laid_remontoire_interp_ops)] }
def InterpOpsSaid : Prop := interpOpsRow.holds Tryz.pinned (OpenSpec.ofChange interpOpsSpec)

/-- ITS FALSE NEIGHBOUR: 'it returns false'. Refute it at one input. -/
def interpOpsWrong : ChangeSpec := { name := "interpOps", fn := fun _ => fun
  | [d] => { results := [.lit (.bool false)], args := [d] }
  | _ => none }
def InterpOpsWrongFalsely : Prop := interpOpsRow.holds Tryz.pinned (OpenSpec.ofChange interpOpsWrong)

/-- 'remontoirelaw13.InterpPublic': WHATEVER THE INPUT: true; the input reads as it did. -/
def interpPublicSpec : ChangeSpec := { name := "interpPublic", fn := fun _ => fun
  | [d1, d2, d3, d4, d5] => { results := [.lit (.bool true)], args := [d1, d2, d3, d4, d5] }
  | _ => none }
def interpPublicRow : OpenClaim := { program := "ytldnmmnnohnpkaagreatdoor", sum := "5f18d8dc2ff224181702a802435ccdc93b7375ea30e5a7e6ad5c080a9f64700c", func := "remontoire/remontoirelaw13.InterpPublic", spec := "interpPublic", inPlace := ["internal/bytealg.IndexByteString"], unfollowed := true, recurses := true, named := ["remontoire/lex.signs", "remontoire/parse.words", "remontoire/parse.levels", "remontoire/check.built", "remontoire/interp.ops"], apart := false, laid := [("remontoire/lex.signs", laid_remontoire_lex_signs), ("remontoire/parse.words", laid_remontoire_parse_words), ("remontoire/parse.levels", laid_remontoire_parse_levels), ("remontoire/check.built", laid_remontoire_check_built), ("remontoire/interp.ops", laid_remontoire_interp_ops)] }
def InterpPublicSaid : Prop := interpPublicRow.holds Tryz.pinned (OpenSpec.ofChange interpPublicSpec)

/-- ITS FALSE NEIGHBOUR: 'it returns false'. Refute it at one input. -/
def interpPublicWrong : ChangeSpec := { name := "interpPublic", fn := fun _ => fun
  | [d1, d2, d3, d4, d5] => { results := [.lit (.bool false)], args := [d1, d2, d3, d4, d5] }
  | _ => none }
def InterpPublicWrongFalsely : Prop := interpPublicRow.holds Tryz.pinned (OpenSpec.ofChange interpPublicWrong)

/-- 'remontoirelaw14.FlatMeans': WHATEVER THE INPUT: true; the input reads as it did. -/
def flatMeansSpec : ChangeSpec := { name := "flatMeans", fn := fun _ => fun
  | [d1, d2, d3, d4] => { results := [.lit (.bool true)], args := [d1, d2, d3, d4] }
  | _ => none }
def flatMeansRow : OpenClaim := { program := "ytldnmmnnohnpkaagreatdoor", sum := "5f18d8dc2ff224181702a802435ccdc93b7375ea30e5a7e6ad5c080a9f64700c", func := "remontoire/remontoirelaw14.FlatMeans", spec := "flatMeans", inPlace := ["internal/bytealg.IndexByteString"], unfollowed := true, recurses := true, named := ["remontoire/lex.signs", "remontoire/parse.words", "remontoire/parse.levels", "remontoire/check.built", "remontoire/interp.ops"], apart := false, laid := [("remontoire/lex.signs", laid_remontoire_lex_signs), ("remontoire/parse.words", laid_remontoire_parse_words), ("remontoire/parse.levels", laid_remontoire_parse_levels), ("remontoire/check.built", laid_remontoire_check_built), ("remontoire/interp.ops", laid_remontoire_interp_ops)] }
def FlatMeansSaid : Prop := flatMeansRow.holds Tryz.pinned (OpenSpec.ofChange flatMeansSpec)

/-- ITS FALSE NEIGHBOUR: 'it returns false'. Refute it at one input. -/
def flatMeansWrong : ChangeSpec := { name := "flatMeans", fn := fun _ => fun
  | [d1, d2, d3, d4] => { results := [.lit (.bool false)], args := [d1, d2, d3, d4] }
  | _ => none }
def FlatMeansWrongFalsely : Prop := flatMeansRow.holds Tryz.pinned (OpenSpec.ofChange flatMeansWrong)

/- THE SECOND FORM. 'bulk': how many values and letters a reading holds, each counted each time it is reached (what is shared counts as often as it is met; a slice's spare places count too). A statement '..UptoSaid' is the law's where the arguments, and the package variables that the reading takes, are together of bulk at most 1048576: NARROWER than '..Said'. Prove '..Said' where nothing that the law and all that it calls make is longer than what came in: it says more and counts as full. Else prove '..UptoSaid'. A law counts once. -/
mutual
def uptoBulk {H : Type} : DataW H → Nat
  | .lit (.string bytes) => bytes.length + 1
  | .lit _ => 1
  | .nil => 1
  | .ptr d => uptoBulk d + 1
  | .slice elems spare => uptoBulkAll elems + uptoBulkAll spare + 1
  | .agg parts => uptoBulkAll parts + 1
  | .iface _ d => uptoBulk d + 1
  | .map entries => uptoBulkEntries entries + 1
  | .held _ => 1
def uptoBulkAll {H : Type} : List (DataW H) → Nat
  | [] => 0
  | d :: r => uptoBulk d + uptoBulkAll r
def uptoBulkEntries {H : Type} : List (Lit × DataW H) → Nat
  | [] => 0
  | x :: r => uptoBulkEntry x + uptoBulkEntries r
def uptoBulkEntry {H : Type} : Lit × DataW H → Nat
  | (.string bytes, d) => bytes.length + uptoBulk d + 1
  | (_, d) => uptoBulk d + 1
 end
def uptoSmall : (H : Type) → List (DataW H) → Bool := fun _ ds => decide (uptoBulkAll ds ≤ 1048576)
def OpenSpec.upto (s : _root_.Go.ChangeSpec) : _root_.Go.OpenSpec := { _root_.Go.OpenSpec.ofChange s with cond := some uptoSmall }

/-- 'remontoirelaw12.CheckPublic', WHERE WHAT IT READS IS OF BULK AT MOST 1048576: true; the input reads as it did. -/
def checkPublicUptoRow : OpenClaim := { program := "ytldnmmnnohnpkaagreatdoor", sum := "5f18d8dc2ff224181702a802435ccdc93b7375ea30e5a7e6ad5c080a9f64700c", func := "remontoire/remontoirelaw12.CheckPublic", spec := "checkPublic", inPlace := ["internal/bytealg.IndexByteString"], unfollowed := true, recurses := true, named := ["remontoire/lex.signs", "remontoire/parse.words", "remontoire/parse.levels", "remontoire/check.built"], apart := false, laid := [("remontoire/lex.signs", laid_remontoire_lex_signs), ("remontoire/parse.words", laid_remontoire_parse_words), ("remontoire/parse.levels", laid_remontoire_parse_levels), ("remontoire/check.built", laid_remontoire_check_built)], narrowed := true }
def CheckPublicUptoSaid : Prop := checkPublicUptoRow.holds Tryz.pinned (OpenSpec.upto checkPublicSpec)

/-- 'remontoirelaw12.CheckBehind', WHERE WHAT IT READS IS OF BULK AT MOST 1048576: true; the input reads as it did. -/
def checkBehindUptoRow : OpenClaim := { program := "ytldnmmnnohnpkaagreatdoor", sum := "5f18d8dc2ff224181702a802435ccdc93b7375ea30e5a7e6ad5c080a9f64700c", func := "remontoire/remontoirelaw12.CheckBehind", spec := "checkBehind", inPlace := ["internal/bytealg.IndexByteString"], unfollowed := true, recurses := true, named := ["remontoire/lex.signs", "remontoire/parse.words", "remontoire/parse.levels", "remontoire/check.built"], apart := false, laid := [("remontoire/lex.signs", laid_remontoire_lex_signs), ("remontoire/parse.words", laid_remontoire_parse_words), ("remontoire/parse.levels", laid_remontoire_parse_levels), ("remontoire/check.built", laid_remontoire_check_built)], narrowed := true }
def CheckBehindUptoSaid : Prop := checkBehindUptoRow.holds Tryz.pinned (OpenSpec.upto checkBehindSpec)

/-- 'remontoirelaw14.FlatRows', WHERE WHAT IT READS IS OF BULK AT MOST 1048576: true; the input reads as it did. -/
def flatRowsUptoRow : OpenClaim := { program := "ytldnmmnnohnpkaagreatdoor", sum := "5f18d8dc2ff224181702a802435ccdc93b7375ea30e5a7e6ad5c080a9f64700c", func := "remontoire/remontoirelaw14.FlatRows", spec := "flatRows", inPlace := ["internal/bytealg.IndexByteString"], unfollowed := true, recurses := true, named := ["remontoire/lex.signs", "remontoire/parse.words", "remontoire/parse.levels", "remontoire/check.built"], apart := false, laid := [("remontoire/lex.signs", laid_remontoire_lex_signs), ("remontoire/parse.words", laid_remontoire_parse_words), ("remontoire/parse.levels", laid_remontoire_parse_levels), ("remontoire/check.built", laid_remontoire_check_built)], narrowed := true }
def FlatRowsUptoSaid : Prop := flatRowsUptoRow.holds Tryz.pinned (OpenSpec.upto flatRowsSpec)

/-- 'remontoirelaw14.FlatTwice', WHERE WHAT IT READS IS OF BULK AT MOST 1048576: true; the input reads as it did. -/
def flatTwiceUptoRow : OpenClaim := { program := "ytldnmmnnohnpkaagreatdoor", sum := "5f18d8dc2ff224181702a802435ccdc93b7375ea30e5a7e6ad5c080a9f64700c", func := "remontoire/remontoirelaw14.FlatTwice", spec := "flatTwice", inPlace := ["internal/bytealg.IndexByteString"], unfollowed := true, recurses := true, named := ["remontoire/lex.signs", "remontoire/parse.words", "remontoire/parse.levels", "remontoire/check.built"], apart := false, laid := [("remontoire/lex.signs", laid_remontoire_lex_signs), ("remontoire/parse.words", laid_remontoire_parse_words), ("remontoire/parse.levels", laid_remontoire_parse_levels), ("remontoire/check.built", laid_remontoire_check_built)], narrowed := true }
def FlatTwiceUptoSaid : Prop := flatTwiceUptoRow.holds Tryz.pinned (OpenSpec.upto flatTwiceSpec)

/-- 'remontoirelaw14.FlatPlain', WHERE WHAT IT READS IS OF BULK AT MOST 1048576: true; the input reads as it did. -/
def flatPlainUptoRow : OpenClaim := { program := "ytldnmmnnohnpkaagreatdoor", sum := "5f18d8dc2ff224181702a802435ccdc93b7375ea30e5a7e6ad5c080a9f64700c", func := "remontoire/remontoirelaw14.FlatPlain", spec := "flatPlain", inPlace := ["internal/bytealg.IndexByteString"], unfollowed := true, recurses := true, named := ["remontoire/lex.signs", "remontoire/parse.words", "remontoire/parse.levels", "remontoire/check.built"], apart := false, laid := [("remontoire/lex.signs", laid_remontoire_lex_signs), ("remontoire/parse.words", laid_remontoire_parse_words), ("remontoire/parse.levels", laid_remontoire_parse_levels), ("remontoire/check.built", laid_remontoire_check_built)], narrowed := true }
def FlatPlainUptoSaid : Prop := flatPlainUptoRow.holds Tryz.pinned (OpenSpec.upto flatPlainSpec)

/-- 'remontoirelaw13.InterpFuel', WHERE WHAT IT READS IS OF BULK AT MOST 1048576: true; the input reads as it did. -/
def interpFuelUptoRow : OpenClaim := { program := "ytldnmmnnohnpkaagreatdoor", sum := "5f18d8dc2ff224181702a802435ccdc93b7375ea30e5a7e6ad5c080a9f64700c", func := "remontoire/remontoirelaw13.InterpFuel", spec := "interpFuel", inPlace := ["internal/bytealg.IndexByteString"], unfollowed := true, recurses := true, named := ["remontoire/lex.signs", "remontoire/parse.words", "remontoire/parse.levels", "remontoire/check.built", "remontoire/interp.ops"], apart := false, laid := [("remontoire/lex.signs", laid_remontoire_lex_signs), ("remontoire/parse.words", laid_remontoire_parse_words), ("remontoire/parse.levels", laid_remontoire_parse_levels), ("remontoire/check.built", laid_remontoire_check_built), ("remontoire/interp.ops", laid_remontoire_interp_ops)], narrowed := true }
def InterpFuelUptoSaid : Prop := interpFuelUptoRow.holds Tryz.pinned (OpenSpec.upto interpFuelSpec)

/-- 'remontoirelaw13.InterpLongs', WHERE WHAT IT READS IS OF BULK AT MOST 1048576: true; the input reads as it did. -/
def interpLongsUptoRow : OpenClaim := { program := "ytldnmmnnohnpkaagreatdoor", sum := "5f18d8dc2ff224181702a802435ccdc93b7375ea30e5a7e6ad5c080a9f64700c", func := "remontoire/remontoirelaw13.InterpLongs", spec := "interpLongs", inPlace := ["internal/bytealg.IndexByteString"], unfollowed := true, recurses := true, named := ["remontoire/lex.signs", "remontoire/parse.words", "remontoire/parse.levels", "remontoire/check.built", "remontoire/interp.ops"], apart := false, laid := [("remontoire/lex.signs", laid_remontoire_lex_signs), ("remontoire/parse.words", laid_remontoire_parse_words), ("remontoire/parse.levels", laid_remontoire_parse_levels), ("remontoire/check.built", laid_remontoire_check_built), ("remontoire/interp.ops", laid_remontoire_interp_ops)], narrowed := true }
def InterpLongsUptoSaid : Prop := interpLongsUptoRow.holds Tryz.pinned (OpenSpec.upto interpLongsSpec)

/-- 'remontoirelaw13.InterpOps', WHERE WHAT IT READS IS OF BULK AT MOST 1048576: true; the input reads as it did. -/
def interpOpsUptoRow : OpenClaim := { program := "ytldnmmnnohnpkaagreatdoor", sum := "5f18d8dc2ff224181702a802435ccdc93b7375ea30e5a7e6ad5c080a9f64700c", func := "remontoire/remontoirelaw13.InterpOps", spec := "interpOps", inPlace := ["internal/bytealg.IndexByteString"], unfollowed := true, recurses := true, named := ["remontoire/lex.signs", "remontoire/parse.words", "remontoire/parse.levels", "remontoire/check.built", "remontoire/interp.ops"], apart := false, laid := [("remontoire/lex.signs", laid_remontoire_lex_signs), ("remontoire/parse.words", laid_remontoire_parse_words), ("remontoire/parse.levels", laid_remontoire_parse_levels), ("remontoire/check.built", laid_remontoire_check_built), ("remontoire/interp.ops", laid_remontoire_interp_ops)], narrowed := true }
def InterpOpsUptoSaid : Prop := interpOpsUptoRow.holds Tryz.pinned (OpenSpec.upto interpOpsSpec)

/-- 'remontoirelaw13.InterpPublic', WHERE WHAT IT READS IS OF BULK AT MOST 1048576: true; the input reads as it did. -/
def interpPublicUptoRow : OpenClaim := { program := "ytldnmmnnohnpkaagreatdoor", sum := "5f18d8dc2ff224181702a802435ccdc93b7375ea30e5a7e6ad5c080a9f64700c", func := "remontoire/remontoirelaw13.InterpPublic", spec := "interpPublic", inPlace := ["internal/bytealg.IndexByteString"], unfollowed := true, recurses := true, named := ["remontoire/lex.signs", "remontoire/parse.words", "remontoire/parse.levels", "remontoire/check.built", "remontoire/interp.ops"], apart := false, laid := [("remontoire/lex.signs", laid_remontoire_lex_signs), ("remontoire/parse.words", laid_remontoire_parse_words), ("remontoire/parse.levels", laid_remontoire_parse_levels), ("remontoire/check.built", laid_remontoire_check_built), ("remontoire/interp.ops", laid_remontoire_interp_ops)], narrowed := true }
def InterpPublicUptoSaid : Prop := interpPublicUptoRow.holds Tryz.pinned (OpenSpec.upto interpPublicSpec)

/-- 'remontoirelaw14.FlatMeans', WHERE WHAT IT READS IS OF BULK AT MOST 1048576: true; the input reads as it did. -/
def flatMeansUptoRow : OpenClaim := { program := "ytldnmmnnohnpkaagreatdoor", sum := "5f18d8dc2ff224181702a802435ccdc93b7375ea30e5a7e6ad5c080a9f64700c", func := "remontoire/remontoirelaw14.FlatMeans", spec := "flatMeans", inPlace := ["internal/bytealg.IndexByteString"], unfollowed := true, recurses := true, named := ["remontoire/lex.signs", "remontoire/parse.words", "remontoire/parse.levels", "remontoire/check.built", "remontoire/interp.ops"], apart := false, laid := [("remontoire/lex.signs", laid_remontoire_lex_signs), ("remontoire/parse.words", laid_remontoire_parse_words), ("remontoire/parse.levels", laid_remontoire_parse_levels), ("remontoire/check.built", laid_remontoire_check_built), ("remontoire/interp.ops", laid_remontoire_interp_ops)], narrowed := true }
def FlatMeansUptoSaid : Prop := flatMeansUptoRow.holds Tryz.pinned (OpenSpec.upto flatMeansSpec)

end Rows
end Go.Proofs.YtldnmmnnohnpkaaGreatDoor
