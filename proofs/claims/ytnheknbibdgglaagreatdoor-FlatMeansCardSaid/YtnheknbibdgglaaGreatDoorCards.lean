/-
  DERIVED. GIVEN WITH THE SEED: THE CARDS: each row of YtnheknbibdgglaaGreatDoorRows.lean that lists a variable, with what it lists TIED to the program's text (the seventh form; the later family's looks); each row that meets fmt, with fmt's text TOLD by the authors' own Lean function (tested against real Go, not proved from fmt's source: count such statements apart). THE CARD IS WHAT COUNTS. Prove the row's statement (the work); the ties are given (YtnheknbibdgglaaGreatDoorTie.lean); close each card by the builder's one call (the guide's Derived/Test/ToyasCard.lean, 'card_holds'). Laid BY PROGRAM, IN A SANDBOX (cutbox-door.mjs). By AI agents, Wed Nov 11 2026. No macro, syntax, notation, axiom, sorry.
-/
import Derived.Test.YtnheknbibdgglaaGreatDoorRows
import GoSem.ClaimSeven
namespace Go.Proofs.YtnheknbibdgglaaGreatDoor
namespace Rows

/-- THE TIED CARD OF 'remontoirelaw15.ClosedTerms'. -/
def closedTermsCard : Claim7 := { stood := { row := closedTermsRow, standIns := [], harness := (true, "652a6d47258dafec8c95187b008d7fdb4d99c12db485e0c574f6270096fc777e"), looks := false }, kinds := [], alts := [], laidByText := true, laidKinds := [.data, .data, .widerDeep, .data, .data, .data], laidTests := true, laidLooks := .later }
def ClosedTermsCardSaid : Prop := Claim7.holds Tryz.pinned (.plain (OpenSpec.ofChange closedTermsSpec)) closedTermsCard

/-- THE TIED CARD OF 'remontoirelaw14.FlatMeans'. -/
def flatMeansCard : Claim7 := { stood := { row := flatMeansRow, standIns := [], harness := (true, "652a6d47258dafec8c95187b008d7fdb4d99c12db485e0c574f6270096fc777e"), looks := false }, kinds := [], alts := [], laidByText := true, laidKinds := [.data, .widerDeep, .data, .data, .data], laidTests := true, laidLooks := .later }
def FlatMeansCardSaid : Prop := Claim7.holds Tryz.pinned (.plain (OpenSpec.ofChange flatMeansSpec)) flatMeansCard

/-- THE TIED CARD OF 'remontoirelaw15.ClosedTraces'. -/
def closedTracesCard : Claim7 := { stood := { row := closedTracesRow, standIns := [], harness := (true, "652a6d47258dafec8c95187b008d7fdb4d99c12db485e0c574f6270096fc777e"), looks := false }, kinds := [], alts := [], laidByText := true, laidKinds := [.data, .data, .widerDeep, .data, .data, .data], laidTests := true, laidLooks := .later }
def ClosedTracesCardSaid : Prop := Claim7.holds Tryz.pinned (.plain (OpenSpec.ofChange closedTracesSpec)) closedTracesCard

/-- THE SECOND FORM's CARD OF 'remontoirelaw15.ClosedTerms'. -/
def closedTermsUptoCard : Claim7 := { stood := { row := closedTermsUptoRow, standIns := [], harness := (true, "652a6d47258dafec8c95187b008d7fdb4d99c12db485e0c574f6270096fc777e"), looks := false }, kinds := [], alts := [], laidByText := true, laidKinds := [.data, .data, .widerDeep, .data, .data, .data], laidTests := true, laidLooks := .later }
def ClosedTermsUptoCardSaid : Prop := Claim7.holds Tryz.pinned (.plain (OpenSpec.upto closedTermsSpec)) closedTermsUptoCard

/-- THE SECOND FORM's CARD OF 'remontoirelaw14.FlatMeans'. -/
def flatMeansUptoCard : Claim7 := { stood := { row := flatMeansUptoRow, standIns := [], harness := (true, "652a6d47258dafec8c95187b008d7fdb4d99c12db485e0c574f6270096fc777e"), looks := false }, kinds := [], alts := [], laidByText := true, laidKinds := [.data, .widerDeep, .data, .data, .data], laidTests := true, laidLooks := .later }
def FlatMeansUptoCardSaid : Prop := Claim7.holds Tryz.pinned (.plain (OpenSpec.upto flatMeansSpec)) flatMeansUptoCard

/-- THE SECOND FORM's CARD OF 'remontoirelaw15.ClosedTraces'. -/
def closedTracesUptoCard : Claim7 := { stood := { row := closedTracesUptoRow, standIns := [], harness := (true, "652a6d47258dafec8c95187b008d7fdb4d99c12db485e0c574f6270096fc777e"), looks := false }, kinds := [], alts := [], laidByText := true, laidKinds := [.data, .data, .widerDeep, .data, .data, .data], laidTests := true, laidLooks := .later }
def ClosedTracesUptoCardSaid : Prop := Claim7.holds Tryz.pinned (.plain (OpenSpec.upto closedTracesSpec)) closedTracesUptoCard
end Rows
end Go.Proofs.YtnheknbibdgglaaGreatDoor
