/-
  DERIVED. GIVEN WITH THE SEED: THE CARDS: each row of YtncembphlfbgoaaGreatDoorRows.lean that lists a variable, with what it lists TIED to the program's text (the seventh form; the later family's looks); each row that meets fmt, with fmt's text TOLD by the authors' own Lean function (tested against real Go, not proved from fmt's source: count such statements apart). THE CARD IS WHAT COUNTS. Prove the row's statement (the work); the ties are given (YtncembphlfbgoaaGreatDoorTie.lean); close each card by the builder's one call (the guide's Derived/Test/ToyasCard.lean, 'card_holds'). Laid BY PROGRAM, IN A SANDBOX (cutbox-door.mjs). By AI agents, Wed Nov 11 2026. No macro, syntax, notation, axiom, sorry.
-/
import Derived.Test.YtncembphlfbgoaaGreatDoorRows
import GoSem.ClaimSeven
namespace Go.Proofs.YtncembphlfbgoaaGreatDoor
namespace Rows

/-- THE TIED CARD OF 'remontoirelaw12.CheckBehind'. -/
def checkBehindCard : Claim7 := { stood := { row := checkBehindRow, standIns := [], harness := (true, "d49b151bce3ae716ed8dff73120a89740c8238de04c0f13fe609ec1c0c82ad8b"), looks := false }, kinds := [], alts := [], laidByText := true, laidKinds := [.data, .widerDeep, .data, .data], laidTests := true, laidLooks := .later }
def CheckBehindCardSaid : Prop := Claim7.holds Tryz.pinned (.plain (OpenSpec.ofChange checkBehindSpec)) checkBehindCard

/-- THE TIED CARD OF 'remontoirelaw14.FlatRows'. -/
def flatRowsCard : Claim7 := { stood := { row := flatRowsRow, standIns := [], harness := (true, "d49b151bce3ae716ed8dff73120a89740c8238de04c0f13fe609ec1c0c82ad8b"), looks := false }, kinds := [], alts := [], laidByText := true, laidKinds := [.data, .widerDeep, .data, .data], laidTests := true, laidLooks := .later }
def FlatRowsCardSaid : Prop := Claim7.holds Tryz.pinned (.plain (OpenSpec.ofChange flatRowsSpec)) flatRowsCard

/-- THE TIED CARD OF 'remontoirelaw13.InterpFuel'. -/
def interpFuelCard : Claim7 := { stood := { row := interpFuelRow, standIns := [], harness := (true, "d49b151bce3ae716ed8dff73120a89740c8238de04c0f13fe609ec1c0c82ad8b"), looks := false }, kinds := [], alts := [], laidByText := true, laidKinds := [.data, .widerDeep, .data, .data, .data], laidTests := true, laidLooks := .later }
def InterpFuelCardSaid : Prop := Claim7.holds Tryz.pinned (.plain (OpenSpec.ofChange interpFuelSpec)) interpFuelCard

/-- THE TIED CARD OF 'remontoirelaw13.InterpPublic'. -/
def interpPublicCard : Claim7 := { stood := { row := interpPublicRow, standIns := [], harness := (true, "d49b151bce3ae716ed8dff73120a89740c8238de04c0f13fe609ec1c0c82ad8b"), looks := false }, kinds := [], alts := [], laidByText := true, laidKinds := [.data, .widerDeep, .data, .data, .data], laidTests := true, laidLooks := .later }
def InterpPublicCardSaid : Prop := Claim7.holds Tryz.pinned (.plain (OpenSpec.ofChange interpPublicSpec)) interpPublicCard

/-- THE TIED CARD OF 'remontoirelaw14.FlatMeans'. -/
def flatMeansCard : Claim7 := { stood := { row := flatMeansRow, standIns := [], harness := (true, "d49b151bce3ae716ed8dff73120a89740c8238de04c0f13fe609ec1c0c82ad8b"), looks := false }, kinds := [], alts := [], laidByText := true, laidKinds := [.data, .widerDeep, .data, .data, .data], laidTests := true, laidLooks := .later }
def FlatMeansCardSaid : Prop := Claim7.holds Tryz.pinned (.plain (OpenSpec.ofChange flatMeansSpec)) flatMeansCard

/-- THE SECOND FORM's CARD OF 'remontoirelaw12.CheckBehind'. -/
def checkBehindUptoCard : Claim7 := { stood := { row := checkBehindUptoRow, standIns := [], harness := (true, "d49b151bce3ae716ed8dff73120a89740c8238de04c0f13fe609ec1c0c82ad8b"), looks := false }, kinds := [], alts := [], laidByText := true, laidKinds := [.data, .widerDeep, .data, .data], laidTests := true, laidLooks := .later }
def CheckBehindUptoCardSaid : Prop := Claim7.holds Tryz.pinned (.plain (OpenSpec.upto checkBehindSpec)) checkBehindUptoCard

/-- THE SECOND FORM's CARD OF 'remontoirelaw14.FlatRows'. -/
def flatRowsUptoCard : Claim7 := { stood := { row := flatRowsUptoRow, standIns := [], harness := (true, "d49b151bce3ae716ed8dff73120a89740c8238de04c0f13fe609ec1c0c82ad8b"), looks := false }, kinds := [], alts := [], laidByText := true, laidKinds := [.data, .widerDeep, .data, .data], laidTests := true, laidLooks := .later }
def FlatRowsUptoCardSaid : Prop := Claim7.holds Tryz.pinned (.plain (OpenSpec.upto flatRowsSpec)) flatRowsUptoCard

/-- THE SECOND FORM's CARD OF 'remontoirelaw13.InterpFuel'. -/
def interpFuelUptoCard : Claim7 := { stood := { row := interpFuelUptoRow, standIns := [], harness := (true, "d49b151bce3ae716ed8dff73120a89740c8238de04c0f13fe609ec1c0c82ad8b"), looks := false }, kinds := [], alts := [], laidByText := true, laidKinds := [.data, .widerDeep, .data, .data, .data], laidTests := true, laidLooks := .later }
def InterpFuelUptoCardSaid : Prop := Claim7.holds Tryz.pinned (.plain (OpenSpec.upto interpFuelSpec)) interpFuelUptoCard

/-- THE SECOND FORM's CARD OF 'remontoirelaw13.InterpPublic'. -/
def interpPublicUptoCard : Claim7 := { stood := { row := interpPublicUptoRow, standIns := [], harness := (true, "d49b151bce3ae716ed8dff73120a89740c8238de04c0f13fe609ec1c0c82ad8b"), looks := false }, kinds := [], alts := [], laidByText := true, laidKinds := [.data, .widerDeep, .data, .data, .data], laidTests := true, laidLooks := .later }
def InterpPublicUptoCardSaid : Prop := Claim7.holds Tryz.pinned (.plain (OpenSpec.upto interpPublicSpec)) interpPublicUptoCard

/-- THE SECOND FORM's CARD OF 'remontoirelaw14.FlatMeans'. -/
def flatMeansUptoCard : Claim7 := { stood := { row := flatMeansUptoRow, standIns := [], harness := (true, "d49b151bce3ae716ed8dff73120a89740c8238de04c0f13fe609ec1c0c82ad8b"), looks := false }, kinds := [], alts := [], laidByText := true, laidKinds := [.data, .widerDeep, .data, .data, .data], laidTests := true, laidLooks := .later }
def FlatMeansUptoCardSaid : Prop := Claim7.holds Tryz.pinned (.plain (OpenSpec.upto flatMeansSpec)) flatMeansUptoCard
end Rows
end Go.Proofs.YtncembphlfbgoaaGreatDoor
