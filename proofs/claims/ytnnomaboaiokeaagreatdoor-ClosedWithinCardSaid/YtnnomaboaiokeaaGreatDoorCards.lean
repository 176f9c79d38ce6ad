/-
  DERIVED. GIVEN WITH THE SEED: THE CARDS: each row of YtnnomaboaiokeaaGreatDoorRows.lean that lists a variable, with what it lists TIED to the program's text (the seventh form; the later family's looks); each row that meets fmt, with fmt's text TOLD by the authors' own Lean function (tested against real Go, not proved from fmt's source: count such statements apart). THE CARD IS WHAT COUNTS. Prove the row's statement (the work); the ties are given (YtnnomaboaiokeaaGreatDoorTie.lean); close each card by the builder's one call (the guide's Derived/Test/ToyasCard.lean, 'card_holds'). Laid BY PROGRAM, IN A SANDBOX (cutbox-door.mjs). By AI agents, Wed Nov 11 2026. No macro, syntax, notation, axiom, sorry.
-/
import Derived.Test.YtnnomaboaiokeaaGreatDoorRows
import GoSem.ClaimSeven
namespace Go.Proofs.YtnnomaboaiokeaaGreatDoor
namespace Rows

/-- THE TIED CARD OF 'remontoirelaw15.ClosedTerms'. -/
def closedTermsCard : Claim7 := { stood := { row := closedTermsRow, standIns := [], harness := (true, "0aba85e9eb29c09505c46b16cbe24abca84aa7df90c0db03ad9aecad7a4ba590"), looks := false }, kinds := [], alts := [], laidByText := true, laidKinds := [.data, .data, .widerDeep, .data, .data, .data], laidTests := true, laidLooks := .later }
def ClosedTermsCardSaid : Prop := Claim7.holds Tryz.pinned (.plain (OpenSpec.ofChange closedTermsSpec)) closedTermsCard

/-- THE TIED CARD OF 'remontoirelaw15.ClosedWithin'. -/
def closedWithinCard : Claim7 := { stood := { row := closedWithinRow, standIns := [], harness := (true, "0aba85e9eb29c09505c46b16cbe24abca84aa7df90c0db03ad9aecad7a4ba590"), looks := false }, kinds := [], alts := [], laidByText := true, laidKinds := [.data, .data, .widerDeep, .data, .data, .data], laidTests := true, laidLooks := .later }
def ClosedWithinCardSaid : Prop := Claim7.holds Tryz.pinned (.plain (OpenSpec.ofChange closedWithinSpec)) closedWithinCard

/-- THE TIED CARD OF 'remontoirelaw15.ClosedWords'. -/
def closedWordsCard : Claim7 := { stood := { row := closedWordsRow, standIns := [], harness := (true, "0aba85e9eb29c09505c46b16cbe24abca84aa7df90c0db03ad9aecad7a4ba590"), looks := false }, kinds := [], alts := [], laidByText := true, laidKinds := [.data, .data, .widerDeep, .data, .data, .data], laidTests := true, laidLooks := .later }
def ClosedWordsCardSaid : Prop := Claim7.holds Tryz.pinned (.plain (OpenSpec.ofChange closedWordsSpec)) closedWordsCard

/-- THE TIED CARD OF 'remontoirelaw19.FrameLays'. -/
def frameLaysCard : Claim7 := { stood := { row := frameLaysRow, standIns := [], harness := (true, "0aba85e9eb29c09505c46b16cbe24abca84aa7df90c0db03ad9aecad7a4ba590"), looks := false }, kinds := [], alts := [], laidByText := true, laidKinds := [.data, .data, .widerDeep, .data, .data, .data], laidTests := true, laidLooks := .later }
def FrameLaysCardSaid : Prop := Claim7.holds Tryz.pinned (.plain (OpenSpec.ofChange frameLaysSpec)) frameLaysCard

/-- THE TIED CARD OF 'remontoirelaw19.FrameArgs'. -/
def frameArgsCard : Claim7 := { stood := { row := frameArgsRow, standIns := [], harness := (true, "0aba85e9eb29c09505c46b16cbe24abca84aa7df90c0db03ad9aecad7a4ba590"), looks := false }, kinds := [], alts := [], laidByText := true, laidKinds := [.data, .data, .widerDeep, .data, .data, .data], laidTests := true, laidLooks := .later }
def FrameArgsCardSaid : Prop := Claim7.holds Tryz.pinned (.plain (OpenSpec.ofChange frameArgsSpec)) frameArgsCard

/-- THE TIED CARD OF 'remontoirelaw15.ClosedTraces'. -/
def closedTracesCard : Claim7 := { stood := { row := closedTracesRow, standIns := [], harness := (true, "0aba85e9eb29c09505c46b16cbe24abca84aa7df90c0db03ad9aecad7a4ba590"), looks := false }, kinds := [], alts := [], laidByText := true, laidKinds := [.data, .data, .widerDeep, .data, .data, .data], laidTests := true, laidLooks := .later }
def ClosedTracesCardSaid : Prop := Claim7.holds Tryz.pinned (.plain (OpenSpec.ofChange closedTracesSpec)) closedTracesCard

/-- THE SECOND FORM's CARD OF 'remontoirelaw15.ClosedTerms'. -/
def closedTermsUptoCard : Claim7 := { stood := { row := closedTermsUptoRow, standIns := [], harness := (true, "0aba85e9eb29c09505c46b16cbe24abca84aa7df90c0db03ad9aecad7a4ba590"), looks := false }, kinds := [], alts := [], laidByText := true, laidKinds := [.data, .data, .widerDeep, .data, .data, .data], laidTests := true, laidLooks := .later }
def ClosedTermsUptoCardSaid : Prop := Claim7.holds Tryz.pinned (.plain (OpenSpec.upto closedTermsSpec)) closedTermsUptoCard

/-- THE SECOND FORM's CARD OF 'remontoirelaw15.ClosedWithin'. -/
def closedWithinUptoCard : Claim7 := { stood := { row := closedWithinUptoRow, standIns := [], harness := (true, "0aba85e9eb29c09505c46b16cbe24abca84aa7df90c0db03ad9aecad7a4ba590"), looks := false }, kinds := [], alts := [], laidByText := true, laidKinds := [.data, .data, .widerDeep, .data, .data, .data], laidTests := true, laidLooks := .later }
def ClosedWithinUptoCardSaid : Prop := Claim7.holds Tryz.pinned (.plain (OpenSpec.upto closedWithinSpec)) closedWithinUptoCard

/-- THE SECOND FORM's CARD OF 'remontoirelaw15.ClosedWords'. -/
def closedWordsUptoCard : Claim7 := { stood := { row := closedWordsUptoRow, standIns := [], harness := (true, "0aba85e9eb29c09505c46b16cbe24abca84aa7df90c0db03ad9aecad7a4ba590"), looks := false }, kinds := [], alts := [], laidByText := true, laidKinds := [.data, .data, .widerDeep, .data, .data, .data], laidTests := true, laidLooks := .later }
def ClosedWordsUptoCardSaid : Prop := Claim7.holds Tryz.pinned (.plain (OpenSpec.upto closedWordsSpec)) closedWordsUptoCard

/-- THE SECOND FORM's CARD OF 'remontoirelaw19.FrameLays'. -/
def frameLaysUptoCard : Claim7 := { stood := { row := frameLaysUptoRow, standIns := [], harness := (true, "0aba85e9eb29c09505c46b16cbe24abca84aa7df90c0db03ad9aecad7a4ba590"), looks := false }, kinds := [], alts := [], laidByText := true, laidKinds := [.data, .data, .widerDeep, .data, .data, .data], laidTests := true, laidLooks := .later }
def FrameLaysUptoCardSaid : Prop := Claim7.holds Tryz.pinned (.plain (OpenSpec.upto frameLaysSpec)) frameLaysUptoCard

/-- THE SECOND FORM's CARD OF 'remontoirelaw19.FrameArgs'. -/
def frameArgsUptoCard : Claim7 := { stood := { row := frameArgsUptoRow, standIns := [], harness := (true, "0aba85e9eb29c09505c46b16cbe24abca84aa7df90c0db03ad9aecad7a4ba590"), looks := false }, kinds := [], alts := [], laidByText := true, laidKinds := [.data, .data, .widerDeep, .data, .data, .data], laidTests := true, laidLooks := .later }
def FrameArgsUptoCardSaid : Prop := Claim7.holds Tryz.pinned (.plain (OpenSpec.upto frameArgsSpec)) frameArgsUptoCard

/-- THE SECOND FORM's CARD OF 'remontoirelaw15.ClosedTraces'. -/
def closedTracesUptoCard : Claim7 := { stood := { row := closedTracesUptoRow, standIns := [], harness := (true, "0aba85e9eb29c09505c46b16cbe24abca84aa7df90c0db03ad9aecad7a4ba590"), looks := false }, kinds := [], alts := [], laidByText := true, laidKinds := [.data, .data, .widerDeep, .data, .data, .data], laidTests := true, laidLooks := .later }
def ClosedTracesUptoCardSaid : Prop := Claim7.holds Tryz.pinned (.plain (OpenSpec.upto closedTracesSpec)) closedTracesUptoCard
end Rows
end Go.Proofs.YtnnomaboaiokeaaGreatDoor
