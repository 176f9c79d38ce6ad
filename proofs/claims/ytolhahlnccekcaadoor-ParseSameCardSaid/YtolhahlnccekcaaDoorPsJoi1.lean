/-
  Derivations moved: other offsets, and another rest.
-/
import Derived.Test.YtolhahlnccekcaaDoorPsDer
namespace Go.Proofs.YtolhahlnccekcaaDoor.Abs
open Go.RowKit
set_option linter.unusedVariables false
set_option linter.unusedSimpArgs false
mutual
def shN (d : Int) : Nd → Nd
  | ⟨k, a, t, n, l⟩ => ⟨k, a + d, t, n, shL d l⟩
def shL (d : Int) : List Nd → List Nd
  | [] => []
  | x :: l => shN d x :: shL d l
end
/-! another rest -/
end Go.Proofs.YtolhahlnccekcaaDoor.Abs
