/-
  DERIVED. GIVEN WITH THE SEED: THE CARDS: each row of YtknbgnpeiohifaaGreatDoorRows.lean that lists a variable, with what it lists TIED to the program's text (the seventh form; the later family's looks); each row that meets fmt, with fmt's text TOLD by the authors' own Lean function (tested against real Go, not proved from fmt's source: count such statements apart). THE CARD IS WHAT COUNTS. Prove the row's statement (the work); the ties are given (YtknbgnpeiohifaaGreatDoorTie.lean); close each card by the builder's one call (the guide's Derived/Test/ToyasCard.lean, 'card_holds'). Laid BY PROGRAM, IN A SANDBOX (cutbox-door.mjs). By AI agents, Wed Nov 11 2026. No macro, syntax, notation, axiom, sorry.
-/
import Derived.Test.YtknbgnpeiohifaaGreatDoorRows
import GoSem.ClaimSeven
namespace Go.Proofs.YtknbgnpeiohifaaGreatDoor
namespace Rows

/-- THE TIED CARD OF 'remontoirelaw14.FlatRows'. -/
def flatRowsCard : Claim7 := { stood := { row := flatRowsRow, standIns := [], harness := (true, "63c568434bec9fec0dc2fc25883b1994514b59449114ee7944fffaa65210d203"), looks := false }, kinds := [], alts := [], laidByText := true, laidKinds := [.data, .widerDeep, .data, .data], laidTests := true, laidLooks := .later }
def FlatRowsCardSaid : Prop := Claim7.holds Tryz.pinned (.plain (OpenSpec.ofChange flatRowsSpec)) flatRowsCard

/-- THE TIED CARD OF 'remontoirelaw15.ClosedTraces'. -/
def closedTracesCard : Claim7 := { stood := { row := closedTracesRow, standIns := [], harness := (true, "63c568434bec9fec0dc2fc25883b1994514b59449114ee7944fffaa65210d203"), looks := false }, kinds := [], alts := [], laidByText := true, laidKinds := [.data, .data, .widerDeep, .data, .data, .data], laidTests := true, laidLooks := .later }
def ClosedTracesCardSaid : Prop := Claim7.holds Tryz.pinned (.plain (OpenSpec.ofChange closedTracesSpec)) closedTracesCard

/-- THE TIED CARD OF 'remontoirelaw20.GenTerms'. -/
def genTermsCard : Claim7 := { stood := { row := genTermsRow, standIns := [], harness := (true, "63c568434bec9fec0dc2fc25883b1994514b59449114ee7944fffaa65210d203"), looks := false }, kinds := [], alts := [], laidByText := true, laidKinds := [.data, .data, .data, .widerDeep, .data, .data, .data, .data], laidTests := true, laidLooks := .later }
def GenTermsCardSaid : Prop := Claim7.holds Tryz.pinned (.plain (OpenSpec.ofChange genTermsSpec)) genTermsCard

/-- THE TIED CARD OF 'remontoirelaw20.GenRight'. -/
def genRightCard : Claim7 := { stood := { row := genRightRow, standIns := [], harness := (true, "63c568434bec9fec0dc2fc25883b1994514b59449114ee7944fffaa65210d203"), looks := false }, kinds := [], alts := [], laidByText := true, laidKinds := [.data, .data, .data, .widerDeep, .data, .data, .data, .data], laidTests := true, laidLooks := .later }
def GenRightCardSaid : Prop := Claim7.holds Tryz.pinned (.plain (OpenSpec.ofChange genRightSpec)) genRightCard

/-- THE TIED CARD OF 'remontoirelaw20.GenMeans'. -/
def genMeansCard : Claim7 := { stood := { row := genMeansRow, standIns := [], harness := (true, "63c568434bec9fec0dc2fc25883b1994514b59449114ee7944fffaa65210d203"), looks := false }, kinds := [], alts := [], laidByText := true, laidKinds := [.data, .data, .data, .widerDeep, .data, .data, .data, .data], laidTests := true, laidLooks := .later }
def GenMeansCardSaid : Prop := Claim7.holds Tryz.pinned (.plain (OpenSpec.ofChange genMeansSpec)) genMeansCard

/-- THE SECOND FORM's CARD OF 'remontoirelaw14.FlatRows'. -/
def flatRowsUptoCard : Claim7 := { stood := { row := flatRowsUptoRow, standIns := [], harness := (true, "63c568434bec9fec0dc2fc25883b1994514b59449114ee7944fffaa65210d203"), looks := false }, kinds := [], alts := [], laidByText := true, laidKinds := [.data, .widerDeep, .data, .data], laidTests := true, laidLooks := .later }
def FlatRowsUptoCardSaid : Prop := Claim7.holds Tryz.pinned (.plain (OpenSpec.upto flatRowsSpec)) flatRowsUptoCard

/-- THE SECOND FORM's CARD OF 'remontoirelaw15.ClosedTraces'. -/
def closedTracesUptoCard : Claim7 := { stood := { row := closedTracesUptoRow, standIns := [], harness := (true, "63c568434bec9fec0dc2fc25883b1994514b59449114ee7944fffaa65210d203"), looks := false }, kinds := [], alts := [], laidByText := true, laidKinds := [.data, .data, .widerDeep, .data, .data, .data], laidTests := true, laidLooks := .later }
def ClosedTracesUptoCardSaid : Prop := Claim7.holds Tryz.pinned (.plain (OpenSpec.upto closedTracesSpec)) closedTracesUptoCard

/-- THE SECOND FORM's CARD OF 'remontoirelaw20.GenTerms'. -/
def genTermsUptoCard : Claim7 := { stood := { row := genTermsUptoRow, standIns := [], harness := (true, "63c568434bec9fec0dc2fc25883b1994514b59449114ee7944fffaa65210d203"), looks := false }, kinds := [], alts := [], laidByText := true, laidKinds := [.data, .data, .data, .widerDeep, .data, .data, .data, .data], laidTests := true, laidLooks := .later }
def GenTermsUptoCardSaid : Prop := Claim7.holds Tryz.pinned (.plain (OpenSpec.upto genTermsSpec)) genTermsUptoCard

/-- THE SECOND FORM's CARD OF 'remontoirelaw20.GenRight'. -/
def genRightUptoCard : Claim7 := { stood := { row := genRightUptoRow, standIns := [], harness := (true, "63c568434bec9fec0dc2fc25883b1994514b59449114ee7944fffaa65210d203"), looks := false }, kinds := [], alts := [], laidByText := true, laidKinds := [.data, .data, .data, .widerDeep, .data, .data, .data, .data], laidTests := true, laidLooks := .later }
def GenRightUptoCardSaid : Prop := Claim7.holds Tryz.pinned (.plain (OpenSpec.upto genRightSpec)) genRightUptoCard

/-- THE SECOND FORM's CARD OF 'remontoirelaw20.GenMeans'. -/
def genMeansUptoCard : Claim7 := { stood := { row := genMeansUptoRow, standIns := [], harness := (true, "63c568434bec9fec0dc2fc25883b1994514b59449114ee7944fffaa65210d203"), looks := false }, kinds := [], alts := [], laidByText := true, laidKinds := [.data, .data, .data, .widerDeep, .data, .data, .data, .data], laidTests := true, laidLooks := .later }
def GenMeansUptoCardSaid : Prop := Claim7.holds Tryz.pinned (.plain (OpenSpec.upto genMeansSpec)) genMeansUptoCard
end Rows
end Go.Proofs.YtknbgnpeiohifaaGreatDoor
