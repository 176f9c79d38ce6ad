/-
  No cell of these rows narrows 'for every input' (looked for: loops, veiled, ifaces, maps, wideKeys, modest, calm, conditions, laid).
  DERIVED. THE GIVEN ROWS OF THIS SEAT. 2 by the template 'for every input the law returns true; each argument reads behind the call as it read before'; 0 by the template 'total and deterministic' (their statements: YtolhahlnccekcaaTotals.lean).
  GIVEN WITH THE SEED: the statements are not yours to turn. If you find one false, say at which input.
  Laid BY PROGRAM, IN A SANDBOX (cutbox-rows.mjs): the forced cells as the released guide's own fill.sh prints them over the translation 47559b6a403d8b0c… (all of the seat's roots in one cut). By AI agents, Wed Nov 11 2026. No macro, syntax, notation, axiom, sorry.
-/
import Derived.Test.YtolhahlnccekcaaChecked
import GoSem.Claim
import GoSem.ClaimJoined
import GoSem.ClaimMapViews
import Derived.JoinedTies
import Derived.KernelRfl
namespace Go.Proofs.Ytolhahlnccekcaa
/- THE CELL 'sum', in the pinned program and in every row, IS THE sha256 OF THE DUMP (.gsa) THAT YtolhahlnccekcaaProg.lean LOADS. Nothing in Lean hashes anything: it is a label: what it is worth is what the hold of that sum in a sandbox is worth. -/
noncomputable def Try.pinned : Pinned := { name := "ytolhahlnccekcaa", sum := "47559b6a403d8b0c6a6a183055c740b0ae200763b07363a5598a26b5428ee631", checked := Try.checked }
namespace Rows
def none {H : Type} : Left H := { results := [], args := [] }

/-- 'remontoirelaw24.CertParses': WHATEVER THE INPUT: true; the input reads as it did. -/
def certParsesSpec : ChangeSpec := { name := "certParses", fn := fun _ => fun
  | [d] => { results := [.lit (.bool true)], args := [d] }
  | _ => none }
def certParsesRow : OpenClaim := { program := "ytolhahlnccekcaa", sum := "47559b6a403d8b0c6a6a183055c740b0ae200763b07363a5598a26b5428ee631", func := "remontoire/remontoirelaw24.CertParses", spec := "certParses", unfollowed := true, recurses := true, apart := false }
def CertParsesSaid : Prop := certParsesRow.holds Try.pinned (OpenSpec.ofChange certParsesSpec)

/-- ITS FALSE NEIGHBOUR: 'it returns false'. Refute it at one input. -/
def certParsesWrong : ChangeSpec := { name := "certParses", fn := fun _ => fun
  | [d] => { results := [.lit (.bool false)], args := [d] }
  | _ => none }
def CertParsesWrongFalsely : Prop := certParsesRow.holds Try.pinned (OpenSpec.ofChange certParsesWrong)

/-- 'remontoirelaw24.CertWords': WHATEVER THE INPUT: true; the input reads as it did. -/
def certWordsSpec : ChangeSpec := { name := "certWords", fn := fun _ => fun
  | [d1, d2] => { results := [.lit (.bool true)], args := [d1, d2] }
  | _ => none }
def certWordsRow : OpenClaim := { program := "ytolhahlnccekcaa", sum := "47559b6a403d8b0c6a6a183055c740b0ae200763b07363a5598a26b5428ee631", func := "remontoire/remontoirelaw24.CertWords", spec := "certWords", unfollowed := true, recurses := true, apart := false }
def CertWordsSaid : Prop := certWordsRow.holds Try.pinned (OpenSpec.ofChange certWordsSpec)

/-- ITS FALSE NEIGHBOUR: 'it returns false'. Refute it at one input. -/
def certWordsWrong : ChangeSpec := { name := "certWords", fn := fun _ => fun
  | [d1, d2] => { results := [.lit (.bool false)], args := [d1, d2] }
  | _ => none }
def CertWordsWrongFalsely : Prop := certWordsRow.holds Try.pinned (OpenSpec.ofChange certWordsWrong)

/- THE SECOND FORM. 'bulk': how many values and letters a reading holds, each counted each time it is reached (what is shared counts as often as it is met; a slice's spare places count too). A statement '..UptoSaid' is the law's where the arguments, and the package variables that the reading takes, are together of bulk at most 1048576: NARROWER than '..Said'. Prove '..Said' where nothing that the law and all that it calls make is longer than what came in: it says more and counts as full. Else prove '..UptoSaid'. A law counts once. -/
mutual
def uptoBulk {H : Type} : DataW H → Nat
  | .lit (.string bytes) => bytes.length + 1
  | .lit _ => 1
  | .nil => 1
  | .ptr d => uptoBulk d + 1
  | .slice elems spare => uptoBulkAll elems + uptoBulkAll spare + 1
  | .agg parts => uptoBulkAll parts + 1
  | .iface _ d => uptoBulk d + 1
  | .map entries => uptoBulkEntries entries + 1
  | .held _ => 1
def uptoBulkAll {H : Type} : List (DataW H) → Nat
  | [] => 0
  | d :: r => uptoBulk d + uptoBulkAll r
def uptoBulkEntries {H : Type} : List (Lit × DataW H) → Nat
  | [] => 0
  | x :: r => uptoBulkEntry x + uptoBulkEntries r
def uptoBulkEntry {H : Type} : Lit × DataW H → Nat
  | (.string bytes, d) => bytes.length + uptoBulk d + 1
  | (_, d) => uptoBulk d + 1
 end
def uptoSmall : (H : Type) → List (DataW H) → Bool := fun _ ds => decide (uptoBulkAll ds ≤ 1048576)
def OpenSpec.upto (s : _root_.Go.ChangeSpec) : _root_.Go.OpenSpec := { _root_.Go.OpenSpec.ofChange s with cond := some uptoSmall }

/-- 'remontoirelaw24.CertParses', WHERE WHAT IT READS IS OF BULK AT MOST 1048576: true; the input reads as it did. -/
def certParsesUptoRow : OpenClaim := { program := "ytolhahlnccekcaa", sum := "47559b6a403d8b0c6a6a183055c740b0ae200763b07363a5598a26b5428ee631", func := "remontoire/remontoirelaw24.CertParses", spec := "certParses", unfollowed := true, recurses := true, apart := false, narrowed := true }
def CertParsesUptoSaid : Prop := certParsesUptoRow.holds Try.pinned (OpenSpec.upto certParsesSpec)

/-- 'remontoirelaw24.CertWords', WHERE WHAT IT READS IS OF BULK AT MOST 1048576: true; the input reads as it did. -/
def certWordsUptoRow : OpenClaim := { program := "ytolhahlnccekcaa", sum := "47559b6a403d8b0c6a6a183055c740b0ae200763b07363a5598a26b5428ee631", func := "remontoire/remontoirelaw24.CertWords", spec := "certWords", unfollowed := true, recurses := true, apart := false, narrowed := true }
def CertWordsUptoSaid : Prop := certWordsUptoRow.holds Try.pinned (OpenSpec.upto certWordsSpec)

end Rows
end Go.Proofs.Ytolhahlnccekcaa
