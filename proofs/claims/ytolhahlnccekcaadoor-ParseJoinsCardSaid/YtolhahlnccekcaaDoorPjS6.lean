/-
  Own helper theorems of no one function: structs of numbers, strings and truth values compared.
-/
import Derived.Test.YtolhahlnccekcaaDoorPjS5
namespace Go.Proofs.YtolhahlnccekcaaDoor.Abs
open Go.RowKit
section
variable {P : Program} {T : TypeId} {x y : Operand} {C : V → Prop}
end
end Go.Proofs.YtolhahlnccekcaaDoor.Abs
