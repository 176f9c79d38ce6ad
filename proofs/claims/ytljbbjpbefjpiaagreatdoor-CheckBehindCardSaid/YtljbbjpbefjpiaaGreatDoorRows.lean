/-
  NARROWER THAN 'FOR EVERY INPUT', by the rows' own cells (each row's printed sentence says how): CheckBehind: laid.
  DERIVED. THE GIVEN ROWS OF THIS SEAT. 1 by the template 'for every input the law returns true; each argument reads behind the call as it read before'; 0 by the template 'total and deterministic' (their statements: YtljbbjpbefjpiaaGreatDoorTotals.lean).
  GIVEN WITH THE SEED: the statements are not yours to turn. If you find one false, say at which input.
  Laid BY PROGRAM, IN A SANDBOX (cutbox-rows.mjs): the forced cells as the released guide's own fill.sh prints them over the translation efdd453e3910bc04… (all of the seat's roots in one cut). By AI agents, Wed Nov 11 2026. No macro, syntax, notation, axiom, sorry.
-/
import Derived.Test.YtljbbjpbefjpiaaGreatDoorChecked
import GoSem.Claim
import GoSem.ClaimJoined
import GoSem.ClaimMapViews
import Derived.JoinedTies
import Derived.KernelRfl
namespace Go.Proofs.YtljbbjpbefjpiaaGreatDoor
/- THE CELL 'sum', in the pinned program and in every row, IS THE sha256 OF THE DUMP (.gsa) THAT YtljbbjpbefjpiaaGreatDoorProg.lean LOADS. Nothing in Lean hashes anything: it is a label: what it is worth is what the hold of that sum in a sandbox is worth. -/
noncomputable def Tryz.pinned : Pinned := { name := "ytljbbjpbefjpiaagreatdoor", sum := "efdd453e3910bc04d9189d86f30a0a74d2fac5a69048f985232176cea319b468", checked := Tryz.checked }
namespace Rows
def none {H : Type} : Left H := { results := [], args := [] }

/- WHAT THE LISTED PACKAGE-LEVEL VARIABLES READ AS WHEN THE CALL BEGINS. Each datum BY PROGRAM (the guide's laid-datum.mjs) off the statement by which the dump's own 'gosem.cut.vars' lays the variable. In a bare row this is a premise. The card (YtljbbjpbefjpiaaGreatDoorCards.lean) ties it to the program's text. -/
def laid_remontoire_lex_signs {H : Type} : DataW H := .agg [.lit (.string [45, 62]), .lit (.string [46, 46]), .lit (.string [61, 61]), .lit (.string [60, 60, 60]), .lit (.string [60, 60]), .lit (.string [62, 62]), .lit (.string [60]), .lit (.string [40]), .lit (.string [41]), .lit (.string [123]), .lit (.string [125]), .lit (.string [91]), .lit (.string [93]), .lit (.string [44]), .lit (.string [59]), .lit (.string [58]), .lit (.string [61]), .lit (.string [43]), .lit (.string [45]), .lit (.string [42]), .lit (.string [47]), .lit (.string [37]), .lit (.string [38]), .lit (.string [124]), .lit (.string [94]), .lit (.string [126])]
def laid_remontoire_parse_words {H : Type} : DataW H := .agg [.lit (.string [102, 110]), .lit (.string [101, 120, 112, 111, 114, 116]), .lit (.string [108, 101, 116]), .lit (.string [118, 97, 114]), .lit (.string [97, 114, 114]), .lit (.string [105, 102]), .lit (.string [101, 108, 115, 101]), .lit (.string [102, 111, 114]), .lit (.string [105, 110]), .lit (.string [114, 101, 116, 117, 114, 110]), .lit (.string [112, 117, 98]), .lit (.string [117, 51, 50]), .lit (.string [117, 54, 52])]
def laid_remontoire_parse_levels {H : Type} : DataW H := .agg [.agg [.lit (.string [124]), .lit (.string []), .lit (.string [])], .agg [.lit (.string [94]), .lit (.string []), .lit (.string [])], .agg [.lit (.string [38]), .lit (.string []), .lit (.string [])], .agg [.lit (.string [61, 61]), .lit (.string [60]), .lit (.string [])], .agg [.lit (.string [60, 60]), .lit (.string [62, 62]), .lit (.string [60, 60, 60])], .agg [.lit (.string [43]), .lit (.string [45]), .lit (.string [])], .agg [.lit (.string [42]), .lit (.string [47]), .lit (.string [37])]]
def laid_remontoire_check_built {H : Type} : DataW H := .agg [.agg [.lit (.string [115, 101, 108, 101, 99, 116]), .lit (.int .i64 3)], .agg [.lit (.string [108, 111, 110, 103]), .lit (.int .i64 1)], .agg [.lit (.string [108, 111]), .lit (.int .i64 1)], .agg [.lit (.string [104, 105]), .lit (.int .i64 1)], .agg [.lit (.string [119, 105, 100, 101]), .lit (.int .i64 2)]]

/-- 'remontoirelaw12.CheckBehind': WHATEVER THE INPUT: true; the input reads as it did. -/
def checkBehindSpec : ChangeSpec := { name := "checkBehind", fn := fun _ => fun
  | [d1, d2] => { results := [.lit (.bool true)], args := [d1, d2] }
  | _ => none }
def checkBehindRow : OpenClaim := { program := "ytljbbjpbefjpiaagreatdoor", sum := "efdd453e3910bc04d9189d86f30a0a74d2fac5a69048f985232176cea319b468", func := "remontoire/remontoirelaw12.CheckBehind", spec := "checkBehind", inPlace := ["internal/bytealg.IndexByteString"], unfollowed := true, recurses := true, named := ["remontoire/lex.signs", "remontoire/parse.words", "remontoire/parse.levels", "remontoire/check.built"], apart := false, laid := [("remontoire/lex.signs", laid_remontoire_lex_signs), ("remontoire/parse.words", laid_remontoire_parse_words), ("remontoire/parse.levels", laid_remontoire_parse_levels), ("remontoire/check.built", laid_remontoire_check_built)] }
def CheckBehindSaid : Prop := checkBehindRow.holds Tryz.pinned (OpenSpec.ofChange checkBehindSpec)

/-- ITS FALSE NEIGHBOUR: 'it returns false'. Refute it at one input. -/
def checkBehindWrong : ChangeSpec := { name := "checkBehind", fn := fun _ => fun
  | [d1, d2] => { results := [.lit (.bool false)], args := [d1, d2] }
  | _ => none }
def CheckBehindWrongFalsely : Prop := checkBehindRow.holds Tryz.pinned (OpenSpec.ofChange checkBehindWrong)

/- THE SECOND FORM. 'bulk': how many values and letters a reading holds, each counted each time it is reached (what is shared counts as often as it is met; a slice's spare places count too). A statement '..UptoSaid' is the law's where the arguments, and the package variables that the reading takes, are together of bulk at most 1048576: NARROWER than '..Said'. Prove '..Said' where nothing that the law and all that it calls make is longer than what came in: it says more and counts as full. Else prove '..UptoSaid'. A law counts once. -/
mutual
def uptoBulk {H : Type} : DataW H → Nat
  | .lit (.string bytes) => bytes.length + 1
  | .lit _ => 1
  | .nil => 1
  | .ptr d => uptoBulk d + 1
  | .slice elems spare => uptoBulkAll elems + uptoBulkAll spare + 1
  | .agg parts => uptoBulkAll parts + 1
  | .iface _ d => uptoBulk d + 1
  | .map entries => uptoBulkEntries entries + 1
  | .held _ => 1
def uptoBulkAll {H : Type} : List (DataW H) → Nat
  | [] => 0
  | d :: r => uptoBulk d + uptoBulkAll r
def uptoBulkEntries {H : Type} : List (Lit × DataW H) → Nat
  | [] => 0
  | x :: r => uptoBulkEntry x + uptoBulkEntries r
def uptoBulkEntry {H : Type} : Lit × DataW H → Nat
  | (.string bytes, d) => bytes.length + uptoBulk d + 1
  | (_, d) => uptoBulk d + 1
 end
def uptoSmall : (H : Type) → List (DataW H) → Bool := fun _ ds => decide (uptoBulkAll ds ≤ 1048576)
def OpenSpec.upto (s : _root_.Go.ChangeSpec) : _root_.Go.OpenSpec := { _root_.Go.OpenSpec.ofChange s with cond := some uptoSmall }

/-- 'remontoirelaw12.CheckBehind', WHERE WHAT IT READS IS OF BULK AT MOST 1048576: true; the input reads as it did. -/
def checkBehindUptoRow : OpenClaim := { program := "ytljbbjpbefjpiaagreatdoor", sum := "efdd453e3910bc04d9189d86f30a0a74d2fac5a69048f985232176cea319b468", func := "remontoire/remontoirelaw12.CheckBehind", spec := "checkBehind", inPlace := ["internal/bytealg.IndexByteString"], unfollowed := true, recurses := true, named := ["remontoire/lex.signs", "remontoire/parse.words", "remontoire/parse.levels", "remontoire/check.built"], apart := false, laid := [("remontoire/lex.signs", laid_remontoire_lex_signs), ("remontoire/parse.words", laid_remontoire_parse_words), ("remontoire/parse.levels", laid_remontoire_parse_levels), ("remontoire/check.built", laid_remontoire_check_built)], narrowed := true }
def CheckBehindUptoSaid : Prop := checkBehindUptoRow.holds Tryz.pinned (OpenSpec.upto checkBehindSpec)

end Rows
end Go.Proofs.YtljbbjpbefjpiaaGreatDoor
