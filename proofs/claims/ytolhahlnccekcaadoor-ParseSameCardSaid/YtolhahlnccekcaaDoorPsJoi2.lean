/-
  The lexer over two texts with a line end between.
-/
import Derived.Test.YtolhahlnccekcaaDoorPsJoi1
namespace Go.Proofs.YtolhahlnccekcaaDoor.Abs
open Go.RowKit
set_option linter.unusedVariables false
set_option linter.unusedSimpArgs false
/-- where the next token begins -/
inductive Sk (s : Str) : Nat → Nat → Prop
  | out : Sk s s.length s.length
  | bl {v k x} : s[v]? = some x → isBl x.toNat = true → Sk s (v + 1) k → Sk s v k
  | rem {v k x o} : s[v]? = some x → isBl x.toNat = false → (s.drop v).take 2 = [47, 47] → Lib.indexByte (s.drop v) 10 = ((o : Nat) : Int) → Sk s (v + o) k → Sk s v k
  | remE {v x} : s[v]? = some x → isBl x.toNat = false → (s.drop v).take 2 = [47, 47] → Lib.indexByte (s.drop v) 10 = -1 → Sk s v s.length
  | tok {v x} : s[v]? = some x → isBl x.toNat = false → (s.drop v).take 2 ≠ [47, 47] → Sk s v v
/-- the tokens from a place on -/
inductive Tk (n : Nat) (s : Str) : Nat → List Tok → Prop
  | nil : Tk n s s.length []
  | cons {v t k l} : v < s.length → lex_next n s v = some (t, 0) → Sk s (v + t.Text_.length) k → Tk n s k l → Tk n s v (t :: l)
section
variable {n : Nat} {s : Str}
end
/-! two texts -/
section
variable {a b : Str}
end
end Go.Proofs.YtolhahlnccekcaaDoor.Abs
