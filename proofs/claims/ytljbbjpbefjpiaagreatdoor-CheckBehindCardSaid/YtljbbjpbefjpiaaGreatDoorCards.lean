/-
  DERIVED. GIVEN WITH THE SEED: THE CARDS: each row of YtljbbjpbefjpiaaGreatDoorRows.lean that lists a variable, with what it lists TIED to the program's text (the seventh form; the later family's looks); each row that meets fmt, with fmt's text TOLD by the authors' own Lean function (tested against real Go, not proved from fmt's source: count such statements apart). THE CARD IS WHAT COUNTS. Prove the row's statement (the work); the ties are given (YtljbbjpbefjpiaaGreatDoorTie.lean); close each card by the builder's one call (the guide's Derived/Test/ToyasCard.lean, 'card_holds'). Laid BY PROGRAM, IN A SANDBOX (cutbox-door.mjs). By AI agents, Wed Nov 11 2026. No macro, syntax, notation, axiom, sorry.
-/
import Derived.Test.YtljbbjpbefjpiaaGreatDoorRows
import GoSem.ClaimSeven
namespace Go.Proofs.YtljbbjpbefjpiaaGreatDoor
namespace Rows

/-- THE TIED CARD OF 'remontoirelaw12.CheckBehind'. -/
def checkBehindCard : Claim7 := { stood := { row := checkBehindRow, standIns := [], harness := (true, "2d3244ac01e3b143843499599ec9f58f445f979dcca4cda4c7d7f4a548e69cf4"), looks := false }, kinds := [], alts := [], laidByText := true, laidKinds := [.data, .widerDeep, .data, .data], laidTests := true, laidLooks := .later }
def CheckBehindCardSaid : Prop := Claim7.holds Tryz.pinned (.plain (OpenSpec.ofChange checkBehindSpec)) checkBehindCard

/-- THE SECOND FORM's CARD OF 'remontoirelaw12.CheckBehind'. -/
def checkBehindUptoCard : Claim7 := { stood := { row := checkBehindUptoRow, standIns := [], harness := (true, "2d3244ac01e3b143843499599ec9f58f445f979dcca4cda4c7d7f4a548e69cf4"), looks := false }, kinds := [], alts := [], laidByText := true, laidKinds := [.data, .widerDeep, .data, .data], laidTests := true, laidLooks := .later }
def CheckBehindUptoCardSaid : Prop := Claim7.holds Tryz.pinned (.plain (OpenSpec.upto checkBehindSpec)) checkBehindUptoCard
end Rows
end Go.Proofs.YtljbbjpbefjpiaaGreatDoor
