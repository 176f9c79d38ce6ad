/-
  DERIVED. GIVEN WITH THE SEED: THE CARDS: each row of YtolhahlnccekcaaDoorRows.lean that lists a variable, with what it lists TIED to the program's text (the seventh form; the later family's looks); each row that meets fmt, with fmt's text TOLD by the authors' own Lean function (tested against real Go, not proved from fmt's source: count such statements apart). THE CARD IS WHAT COUNTS. Prove the row's statement (the work); the ties are given (YtolhahlnccekcaaDoorTie.lean); close each card by the builder's one call (the guide's Derived/Test/ToyasCard.lean, 'card_holds'). Laid BY PROGRAM, IN A SANDBOX (cutbox-door.mjs). By AI agents, Wed Nov 11 2026. No macro, syntax, notation, axiom, sorry.
-/
import Derived.Test.YtolhahlnccekcaaDoorRows
import GoSem.ClaimSeven
namespace Go.Proofs.YtolhahlnccekcaaDoor
namespace Rows

/-- THE TIED CARD OF 'remontoirelaw10.ParseWords'. -/
def parseWordsCard : Claim7 := { stood := { row := parseWordsRow, standIns := [], harness := (true, "309b9d4df03dfb33facd44ede3676af7f96e9ea2e855aefa81007084e06a7fc4"), looks := false }, kinds := [], alts := [], laidByText := true, laidKinds := [.data, .widerDeep, .data], laidTests := true, laidLooks := .later }
def ParseWordsCardSaid : Prop := Claim7.holds Tryd.pinned (.plain (OpenSpec.ofChange parseWordsSpec)) parseWordsCard

/-- THE TIED CARD OF 'remontoirelaw10.ParseLevels'. -/
def parseLevelsCard : Claim7 := { stood := { row := parseLevelsRow, standIns := [], harness := (true, "309b9d4df03dfb33facd44ede3676af7f96e9ea2e855aefa81007084e06a7fc4"), looks := false }, kinds := [], alts := [], laidByText := true, laidKinds := [.data, .widerDeep, .data], laidTests := true, laidLooks := .later }
def ParseLevelsCardSaid : Prop := Claim7.holds Tryd.pinned (.plain (OpenSpec.ofChange parseLevelsSpec)) parseLevelsCard

/-- THE TIED CARD OF 'remontoirelaw10.ParseTrees'. -/
def parseTreesCard : Claim7 := { stood := { row := parseTreesRow, standIns := [], harness := (true, "309b9d4df03dfb33facd44ede3676af7f96e9ea2e855aefa81007084e06a7fc4"), looks := false }, kinds := [], alts := [], laidByText := true, laidKinds := [.data, .widerDeep, .data], laidTests := true, laidLooks := .later }
def ParseTreesCardSaid : Prop := Claim7.holds Tryd.pinned (.plain (OpenSpec.ofChange parseTreesSpec)) parseTreesCard

/-- THE TIED CARD OF 'remontoirelaw10.ParseSame'. -/
def parseSameCard : Claim7 := { stood := { row := parseSameRow, standIns := [], harness := (true, "309b9d4df03dfb33facd44ede3676af7f96e9ea2e855aefa81007084e06a7fc4"), looks := false }, kinds := [], alts := [], laidByText := true, laidKinds := [.data, .widerDeep, .data], laidTests := true, laidLooks := .later }
def ParseSameCardSaid : Prop := Claim7.holds Tryd.pinned (.plain (OpenSpec.ofChange parseSameSpec)) parseSameCard

/-- THE TIED CARD OF 'remontoirelaw10.ParseJoins'. -/
def parseJoinsCard : Claim7 := { stood := { row := parseJoinsRow, standIns := [], harness := (true, "309b9d4df03dfb33facd44ede3676af7f96e9ea2e855aefa81007084e06a7fc4"), looks := false }, kinds := [], alts := [], laidByText := true, laidKinds := [.data, .widerDeep, .data], laidTests := true, laidLooks := .later }
def ParseJoinsCardSaid : Prop := Claim7.holds Tryd.pinned (.plain (OpenSpec.ofChange parseJoinsSpec)) parseJoinsCard

/-- THE TIED CARD OF 'remontoirelaw10.ParseShows'. -/
def parseShowsCard : Claim7 := { stood := { row := parseShowsRow, standIns := [], harness := (true, "309b9d4df03dfb33facd44ede3676af7f96e9ea2e855aefa81007084e06a7fc4"), looks := false }, kinds := [], alts := [], laidByText := true, laidKinds := [.data, .data, .data, .data, .widerDeep, .data, .data], laidTests := true, laidLooks := .later }
def ParseShowsCardSaid : Prop := Claim7.holds Tryd.pinned (.plain (OpenSpec.ofChange parseShowsSpec)) parseShowsCard

/-- THE TIED CARD OF 'remontoirelaw12.CheckNumbers'. -/
def checkNumbersCard : Claim7 := { stood := { row := checkNumbersRow, standIns := [], harness := (true, "309b9d4df03dfb33facd44ede3676af7f96e9ea2e855aefa81007084e06a7fc4"), looks := false }, kinds := [], alts := [], laidByText := true, laidKinds := [.data, .widerDeep, .data, .data], laidTests := true, laidLooks := .later }
def CheckNumbersCardSaid : Prop := Claim7.holds Tryd.pinned (.plain (OpenSpec.ofChange checkNumbersSpec)) checkNumbersCard

/-- THE TIED CARD OF 'remontoirelaw12.CheckFinds'. -/
def checkFindsCard : Claim7 := { stood := { row := checkFindsRow, standIns := [], harness := (true, "309b9d4df03dfb33facd44ede3676af7f96e9ea2e855aefa81007084e06a7fc4"), looks := false }, kinds := [], alts := [], laidByText := true, laidKinds := [.data, .widerDeep, .data, .data], laidTests := true, laidLooks := .later }
def CheckFindsCardSaid : Prop := Claim7.holds Tryd.pinned (.plain (OpenSpec.ofChange checkFindsSpec)) checkFindsCard

/-- THE SECOND FORM's CARD OF 'remontoirelaw10.ParseWords'. -/
def parseWordsUptoCard : Claim7 := { stood := { row := parseWordsUptoRow, standIns := [], harness := (true, "309b9d4df03dfb33facd44ede3676af7f96e9ea2e855aefa81007084e06a7fc4"), looks := false }, kinds := [], alts := [], laidByText := true, laidKinds := [.data, .widerDeep, .data], laidTests := true, laidLooks := .later }
def ParseWordsUptoCardSaid : Prop := Claim7.holds Tryd.pinned (.plain (OpenSpec.upto parseWordsSpec)) parseWordsUptoCard

/-- THE SECOND FORM's CARD OF 'remontoirelaw10.ParseLevels'. -/
def parseLevelsUptoCard : Claim7 := { stood := { row := parseLevelsUptoRow, standIns := [], harness := (true, "309b9d4df03dfb33facd44ede3676af7f96e9ea2e855aefa81007084e06a7fc4"), looks := false }, kinds := [], alts := [], laidByText := true, laidKinds := [.data, .widerDeep, .data], laidTests := true, laidLooks := .later }
def ParseLevelsUptoCardSaid : Prop := Claim7.holds Tryd.pinned (.plain (OpenSpec.upto parseLevelsSpec)) parseLevelsUptoCard

/-- THE SECOND FORM's CARD OF 'remontoirelaw10.ParseTrees'. -/
def parseTreesUptoCard : Claim7 := { stood := { row := parseTreesUptoRow, standIns := [], harness := (true, "309b9d4df03dfb33facd44ede3676af7f96e9ea2e855aefa81007084e06a7fc4"), looks := false }, kinds := [], alts := [], laidByText := true, laidKinds := [.data, .widerDeep, .data], laidTests := true, laidLooks := .later }
def ParseTreesUptoCardSaid : Prop := Claim7.holds Tryd.pinned (.plain (OpenSpec.upto parseTreesSpec)) parseTreesUptoCard

/-- THE SECOND FORM's CARD OF 'remontoirelaw10.ParseSame'. -/
def parseSameUptoCard : Claim7 := { stood := { row := parseSameUptoRow, standIns := [], harness := (true, "309b9d4df03dfb33facd44ede3676af7f96e9ea2e855aefa81007084e06a7fc4"), looks := false }, kinds := [], alts := [], laidByText := true, laidKinds := [.data, .widerDeep, .data], laidTests := true, laidLooks := .later }
def ParseSameUptoCardSaid : Prop := Claim7.holds Tryd.pinned (.plain (OpenSpec.upto parseSameSpec)) parseSameUptoCard

/-- THE SECOND FORM's CARD OF 'remontoirelaw10.ParseJoins'. -/
def parseJoinsUptoCard : Claim7 := { stood := { row := parseJoinsUptoRow, standIns := [], harness := (true, "309b9d4df03dfb33facd44ede3676af7f96e9ea2e855aefa81007084e06a7fc4"), looks := false }, kinds := [], alts := [], laidByText := true, laidKinds := [.data, .widerDeep, .data], laidTests := true, laidLooks := .later }
def ParseJoinsUptoCardSaid : Prop := Claim7.holds Tryd.pinned (.plain (OpenSpec.upto parseJoinsSpec)) parseJoinsUptoCard

/-- THE SECOND FORM's CARD OF 'remontoirelaw10.ParseShows'. -/
def parseShowsUptoCard : Claim7 := { stood := { row := parseShowsUptoRow, standIns := [], harness := (true, "309b9d4df03dfb33facd44ede3676af7f96e9ea2e855aefa81007084e06a7fc4"), looks := false }, kinds := [], alts := [], laidByText := true, laidKinds := [.data, .data, .data, .data, .widerDeep, .data, .data], laidTests := true, laidLooks := .later }
def ParseShowsUptoCardSaid : Prop := Claim7.holds Tryd.pinned (.plain (OpenSpec.upto parseShowsSpec)) parseShowsUptoCard

/-- THE SECOND FORM's CARD OF 'remontoirelaw12.CheckNumbers'. -/
def checkNumbersUptoCard : Claim7 := { stood := { row := checkNumbersUptoRow, standIns := [], harness := (true, "309b9d4df03dfb33facd44ede3676af7f96e9ea2e855aefa81007084e06a7fc4"), looks := false }, kinds := [], alts := [], laidByText := true, laidKinds := [.data, .widerDeep, .data, .data], laidTests := true, laidLooks := .later }
def CheckNumbersUptoCardSaid : Prop := Claim7.holds Tryd.pinned (.plain (OpenSpec.upto checkNumbersSpec)) checkNumbersUptoCard

/-- THE SECOND FORM's CARD OF 'remontoirelaw12.CheckFinds'. -/
def checkFindsUptoCard : Claim7 := { stood := { row := checkFindsUptoRow, standIns := [], harness := (true, "309b9d4df03dfb33facd44ede3676af7f96e9ea2e855aefa81007084e06a7fc4"), looks := false }, kinds := [], alts := [], laidByText := true, laidKinds := [.data, .widerDeep, .data, .data], laidTests := true, laidLooks := .later }
def CheckFindsUptoCardSaid : Prop := Claim7.holds Tryd.pinned (.plain (OpenSpec.upto checkFindsSpec)) checkFindsUptoCard
end Rows
end Go.Proofs.YtolhahlnccekcaaDoor
