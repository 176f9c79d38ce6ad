/-
  ParseTrees, the lexer: numbers, signs, tokens.
-/
import Derived.Test.YtolhahlnccekcaaDoorPsTr1
namespace Go.Proofs.YtolhahlnccekcaaDoor.Abs
open Go.RowKit
set_option linter.unusedVariables false
set_option linter.unusedSimpArgs false
def cT (t : T_lex_Token) : T_remontoireref09_T := ⟨t.Kind_, t.At_, t.Text_, t.Num_⟩
end Go.Proofs.YtolhahlnccekcaaDoor.Abs
