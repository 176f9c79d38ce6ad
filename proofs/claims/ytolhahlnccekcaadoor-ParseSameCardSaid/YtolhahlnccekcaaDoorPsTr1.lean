/-
  ParseTrees, the lexer: the document's tokens are the program's.
-/
import Derived.Test.YtolhahlnccekcaaDoorPsTot
import Derived.KernelRfl
namespace Go.Proofs.YtolhahlnccekcaaDoor.Abs
open Go.RowKit
set_option linter.unusedVariables false
set_option linter.unusedSimpArgs false
end Go.Proofs.YtolhahlnccekcaaDoor.Abs
