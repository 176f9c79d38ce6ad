/-
  DERIVED. GIVEN WITH THE SEED: THE CARDS: each row of YtldnmmnnohnpkaaGreatDoorRows.lean that lists a variable, with what it lists TIED to the program's text (the seventh form; the later family's looks); each row that meets fmt, with fmt's text TOLD by the authors' own Lean function (tested against real Go, not proved from fmt's source: count such statements apart). THE CARD IS WHAT COUNTS. Prove the row's statement (the work); the ties are given (YtldnmmnnohnpkaaGreatDoorTie.lean); close each card by the builder's one call (the guide's Derived/Test/ToyasCard.lean, 'card_holds'). Laid BY PROGRAM, IN A SANDBOX (cutbox-door.mjs). By AI agents, Wed Nov 11 2026. No macro, syntax, notation, axiom, sorry.
-/
import Derived.Test.YtldnmmnnohnpkaaGreatDoorRows
import GoSem.ClaimSeven
namespace Go.Proofs.YtldnmmnnohnpkaaGreatDoor
namespace Rows

/-- THE TIED CARD OF 'remontoirelaw12.CheckPublic'. -/
def checkPublicCard : Claim7 := { stood := { row := checkPublicRow, standIns := [], harness := (true, "74b8e18d0c05697819f1ec8ca841f95387627565115b213af681bf18d8fb6613"), looks := false }, kinds := [], alts := [], laidByText := true, laidKinds := [.data, .widerDeep, .data, .data], laidTests := true, laidLooks := .later }
def CheckPublicCardSaid : Prop := Claim7.holds Tryz.pinned (.plain (OpenSpec.ofChange checkPublicSpec)) checkPublicCard

/-- THE TIED CARD OF 'remontoirelaw12.CheckBehind'. -/
def checkBehindCard : Claim7 := { stood := { row := checkBehindRow, standIns := [], harness := (true, "74b8e18d0c05697819f1ec8ca841f95387627565115b213af681bf18d8fb6613"), looks := false }, kinds := [], alts := [], laidByText := true, laidKinds := [.data, .widerDeep, .data, .data], laidTests := true, laidLooks := .later }
def CheckBehindCardSaid : Prop := Claim7.holds Tryz.pinned (.plain (OpenSpec.ofChange checkBehindSpec)) checkBehindCard

/-- THE TIED CARD OF 'remontoirelaw14.FlatRows'. -/
def flatRowsCard : Claim7 := { stood := { row := flatRowsRow, standIns := [], harness := (true, "74b8e18d0c05697819f1ec8ca841f95387627565115b213af681bf18d8fb6613"), looks := false }, kinds := [], alts := [], laidByText := true, laidKinds := [.data, .widerDeep, .data, .data], laidTests := true, laidLooks := .later }
def FlatRowsCardSaid : Prop := Claim7.holds Tryz.pinned (.plain (OpenSpec.ofChange flatRowsSpec)) flatRowsCard

/-- THE TIED CARD OF 'remontoirelaw14.FlatTwice'. -/
def flatTwiceCard : Claim7 := { stood := { row := flatTwiceRow, standIns := [], harness := (true, "74b8e18d0c05697819f1ec8ca841f95387627565115b213af681bf18d8fb6613"), looks := false }, kinds := [], alts := [], laidByText := true, laidKinds := [.data, .widerDeep, .data, .data], laidTests := true, laidLooks := .later }
def FlatTwiceCardSaid : Prop := Claim7.holds Tryz.pinned (.plain (OpenSpec.ofChange flatTwiceSpec)) flatTwiceCard

/-- THE TIED CARD OF 'remontoirelaw14.FlatPlain'. -/
def flatPlainCard : Claim7 := { stood := { row := flatPlainRow, standIns := [], harness := (true, "74b8e18d0c05697819f1ec8ca841f95387627565115b213af681bf18d8fb6613"), looks := false }, kinds := [], alts := [], laidByText := true, laidKinds := [.data, .widerDeep, .data, .data], laidTests := true, laidLooks := .later }
def FlatPlainCardSaid : Prop := Claim7.holds Tryz.pinned (.plain (OpenSpec.ofChange flatPlainSpec)) flatPlainCard

/-- THE TIED CARD OF 'remontoirelaw13.InterpFuel'. -/
def interpFuelCard : Claim7 := { stood := { row := interpFuelRow, standIns := [], harness := (true, "74b8e18d0c05697819f1ec8ca841f95387627565115b213af681bf18d8fb6613"), looks := false }, kinds := [], alts := [], laidByText := true, laidKinds := [.data, .widerDeep, .data, .data, .data], laidTests := true, laidLooks := .later }
def InterpFuelCardSaid : Prop := Claim7.holds Tryz.pinned (.plain (OpenSpec.ofChange interpFuelSpec)) interpFuelCard

/-- THE TIED CARD OF 'remontoirelaw13.InterpLongs'. -/
def interpLongsCard : Claim7 := { stood := { row := interpLongsRow, standIns := [], harness := (true, "74b8e18d0c05697819f1ec8ca841f95387627565115b213af681bf18d8fb6613"), looks := false }, kinds := [], alts := [], laidByText := true, laidKinds := [.data, .widerDeep, .data, .data, .data], laidTests := true, laidLooks := .later }
def InterpLongsCardSaid : Prop := Claim7.holds Tryz.pinned (.plain (OpenSpec.ofChange interpLongsSpec)) interpLongsCard

/-- THE TIED CARD OF 'remontoirelaw13.InterpOps'. -/
def interpOpsCard : Claim7 := { stood := { row := interpOpsRow, standIns := [], harness := (true, "74b8e18d0c05697819f1ec8ca841f95387627565115b213af681bf18d8fb6613"), looks := false }, kinds := [], alts := [], laidByText := true, laidKinds := [.data, .widerDeep, .data, .data, .data], laidTests := true, laidLooks := .later }
def InterpOpsCardSaid : Prop := Claim7.holds Tryz.pinned (.plain (OpenSpec.ofChange interpOpsSpec)) interpOpsCard

/-- THE TIED CARD OF 'remontoirelaw13.InterpPublic'. -/
def interpPublicCard : Claim7 := { stood := { row := interpPublicRow, standIns := [], harness := (true, "74b8e18d0c05697819f1ec8ca841f95387627565115b213af681bf18d8fb6613"), looks := false }, kinds := [], alts := [], laidByText := true, laidKinds := [.data, .widerDeep, .data, .data, .data], laidTests := true, laidLooks := .later }
def InterpPublicCardSaid : Prop := Claim7.holds Tryz.pinned (.plain (OpenSpec.ofChange interpPublicSpec)) interpPublicCard

/-- THE TIED CARD OF 'remontoirelaw14.FlatMeans'. -/
def flatMeansCard : Claim7 := { stood := { row := flatMeansRow, standIns := [], harness := (true, "74b8e18d0c05697819f1ec8ca841f95387627565115b213af681bf18d8fb6613"), looks := false }, kinds := [], alts := [], laidByText := true, laidKinds := [.data, .widerDeep, .data, .data, .data], laidTests := true, laidLooks := .later }
def FlatMeansCardSaid : Prop := Claim7.holds Tryz.pinned (.plain (OpenSpec.ofChange flatMeansSpec)) flatMeansCard

/-- THE SECOND FORM's CARD OF 'remontoirelaw12.CheckPublic'. -/
def checkPublicUptoCard : Claim7 := { stood := { row := checkPublicUptoRow, standIns := [], harness := (true, "74b8e18d0c05697819f1ec8ca841f95387627565115b213af681bf18d8fb6613"), looks := false }, kinds := [], alts := [], laidByText := true, laidKinds := [.data, .widerDeep, .data, .data], laidTests := true, laidLooks := .later }
def CheckPublicUptoCardSaid : Prop := Claim7.holds Tryz.pinned (.plain (OpenSpec.upto checkPublicSpec)) checkPublicUptoCard

/-- THE SECOND FORM's CARD OF 'remontoirelaw12.CheckBehind'. -/
def checkBehindUptoCard : Claim7 := { stood := { row := checkBehindUptoRow, standIns := [], harness := (true, "74b8e18d0c05697819f1ec8ca841f95387627565115b213af681bf18d8fb6613"), looks := false }, kinds := [], alts := [], laidByText := true, laidKinds := [.data, .widerDeep, .data, .data], laidTests := true, laidLooks := .later }
def CheckBehindUptoCardSaid : Prop := Claim7.holds Tryz.pinned (.plain (OpenSpec.upto checkBehindSpec)) checkBehindUptoCard

/-- THE SECOND FORM's CARD OF 'remontoirelaw14.FlatRows'. -/
def flatRowsUptoCard : Claim7 := { stood := { row := flatRowsUptoRow, standIns := [], harness := (true, "74b8e18d0c05697819f1ec8ca841f95387627565115b213af681bf18d8fb6613"), looks := false }, kinds := [], alts := [], laidByText := true, laidKinds := [.data, .widerDeep, .data, .data], laidTests := true, laidLooks := .later }
def FlatRowsUptoCardSaid : Prop := Claim7.holds Tryz.pinned (.plain (OpenSpec.upto flatRowsSpec)) flatRowsUptoCard

/-- THE SECOND FORM's CARD OF 'remontoirelaw14.FlatTwice'. -/
def flatTwiceUptoCard : Claim7 := { stood := { row := flatTwiceUptoRow, standIns := [], harness := (true, "74b8e18d0c05697819f1ec8ca841f95387627565115b213af681bf18d8fb6613"), looks := false }, kinds := [], alts := [], laidByText := true, laidKinds := [.data, .widerDeep, .data, .data], laidTests := true, laidLooks := .later }
def FlatTwiceUptoCardSaid : Prop := Claim7.holds Tryz.pinned (.plain (OpenSpec.upto flatTwiceSpec)) flatTwiceUptoCard

/-- THE SECOND FORM's CARD OF 'remontoirelaw14.FlatPlain'. -/
def flatPlainUptoCard : Claim7 := { stood := { row := flatPlainUptoRow, standIns := [], harness := (true, "74b8e18d0c05697819f1ec8ca841f95387627565115b213af681bf18d8fb6613"), looks := false }, kinds := [], alts := [], laidByText := true, laidKinds := [.data, .widerDeep, .data, .data], laidTests := true, laidLooks := .later }
def FlatPlainUptoCardSaid : Prop := Claim7.holds Tryz.pinned (.plain (OpenSpec.upto flatPlainSpec)) flatPlainUptoCard

/-- THE SECOND FORM's CARD OF 'remontoirelaw13.InterpFuel'. -/
def interpFuelUptoCard : Claim7 := { stood := { row := interpFuelUptoRow, standIns := [], harness := (true, "74b8e18d0c05697819f1ec8ca841f95387627565115b213af681bf18d8fb6613"), looks := false }, kinds := [], alts := [], laidByText := true, laidKinds := [.data, .widerDeep, .data, .data, .data], laidTests := true, laidLooks := .later }
def InterpFuelUptoCardSaid : Prop := Claim7.holds Tryz.pinned (.plain (OpenSpec.upto interpFuelSpec)) interpFuelUptoCard

/-- THE SECOND FORM's CARD OF 'remontoirelaw13.InterpLongs'. -/
def interpLongsUptoCard : Claim7 := { stood := { row := interpLongsUptoRow, standIns := [], harness := (true, "74b8e18d0c05697819f1ec8ca841f95387627565115b213af681bf18d8fb6613"), looks := false }, kinds := [], alts := [], laidByText := true, laidKinds := [.data, .widerDeep, .data, .data, .data], laidTests := true, laidLooks := .later }
def InterpLongsUptoCardSaid : Prop := Claim7.holds Tryz.pinned (.plain (OpenSpec.upto interpLongsSpec)) interpLongsUptoCard

/-- THE SECOND FORM's CARD OF 'remontoirelaw13.InterpOps'. -/
def interpOpsUptoCard : Claim7 := { stood := { row := interpOpsUptoRow, standIns := [], harness := (true, "74b8e18d0c05697819f1ec8ca841f95387627565115b213af681bf18d8fb6613"), looks := false }, kinds := [], alts := [], laidByText := true, laidKinds := [.data, .widerDeep, .data, .data, .data], laidTests := true, laidLooks := .later }
def InterpOpsUptoCardSaid : Prop := Claim7.holds Tryz.pinned (.plain (OpenSpec.upto interpOpsSpec)) interpOpsUptoCard

/-- THE SECOND FORM's CARD OF 'remontoirelaw13.InterpPublic'. -/
def interpPublicUptoCard : Claim7 := { stood := { row := interpPublicUptoRow, standIns := [], harness := (true, "74b8e18d0c05697819f1ec8ca841f95387627565115b213af681bf18d8fb6613"), looks := false }, kinds := [], alts := [], laidByText := true, laidKinds := [.data, .widerDeep, .data, .data, .data], laidTests := true, laidLooks := .later }
def InterpPublicUptoCardSaid : Prop := Claim7.holds Tryz.pinned (.plain (OpenSpec.upto interpPublicSpec)) interpPublicUptoCard

/-- THE SECOND FORM's CARD OF 'remontoirelaw14.FlatMeans'. -/
def flatMeansUptoCard : Claim7 := { stood := { row := flatMeansUptoRow, standIns := [], harness := (true, "74b8e18d0c05697819f1ec8ca841f95387627565115b213af681bf18d8fb6613"), looks := false }, kinds := [], alts := [], laidByText := true, laidKinds := [.data, .widerDeep, .data, .data, .data], laidTests := true, laidLooks := .later }
def FlatMeansUptoCardSaid : Prop := Claim7.holds Tryz.pinned (.plain (OpenSpec.upto flatMeansSpec)) flatMeansUptoCard
end Rows
end Go.Proofs.YtldnmmnnohnpkaaGreatDoor
