/-
  ParseJoins: the law.
-/
import Derived.Test.YtolhahlnccekcaaDoorPwJoi1
import Derived.Test.YtolhahlnccekcaaDoorPwDer8
import Derived.Test.YtolhahlnccekcaaDoorPwSame10
namespace Go.Proofs.YtolhahlnccekcaaDoor.Abs
open Go.RowKit
set_option linter.unusedVariables false
set_option linter.unusedSimpArgs false
theorem parse_der {n : Nat} {s : Str} {r : T_parse_Node × Int × Int} (hn : 16 * s.length + 200 < n) (h : parse_Parse n s = some r) (he : r.2.1 = 0) : ∃ l w fs z t us, lex_Tokens n s = some (l, 0, w) ∧ DFs 64 l fs [z] ∧ z.Kind_ = 4 ∧ l = t :: us ∧ r.1 = ⟨1, t.At_, [], 0, fs⟩ ∧ 1 + szL fs ≤ 16384 := by
  obtain ⟨l, w, fs, z, h1, h2, h3, t, us, h4, h5⟩ := (sParse hn).get h he
  refine ⟨l, w, fs, z, t, us, h1, h2, h3, h4, h5, ?_⟩
  rcases (cParse (D := 64) (by decide) (by decide) hn h1 h2 h3).get h with ⟨_, _, _, _, h6⟩ | ⟨h6, _⟩ | ⟨_, h6⟩
  · exact h6
  · rw [he] at h6; cases h6
  · omega
end Go.Proofs.YtolhahlnccekcaaDoor.Abs
