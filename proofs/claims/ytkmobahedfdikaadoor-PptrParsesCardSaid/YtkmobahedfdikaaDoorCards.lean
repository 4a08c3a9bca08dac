/-
  DERIVED. GIVEN WITH THE SEED: THE CARDS: each row of YtkmobahedfdikaaDoorRows.lean that lists a variable, with what it lists TIED to the program's text (the seventh form; the later family's looks); each row that meets fmt, with fmt's text TOLD by the authors' own Lean function (tested against real Go, not proved from fmt's source: count such statements apart). THE CARD IS WHAT COUNTS. Prove the row's statement (the work); the ties are given (YtkmobahedfdikaaDoorTie.lean); close each card by the builder's one call (the guide's Derived/Test/ToyasCard.lean, 'card_holds'). Laid BY PROGRAM, IN A SANDBOX (cutbox-door.mjs). By AI agents, Wed Nov 11 2026. No macro, syntax, notation, axiom, sorry.
-/
import Derived.Test.YtkmobahedfdikaaDoorRows
import GoSem.ClaimSeven
namespace Go.Proofs.YtkmobahedfdikaaDoor
namespace Rows

/-- THE TIED CARD OF 'bedrocklaw09.PptrWords'. -/
def pptrWordsCard : Claim7 := { stood := { row := pptrWordsRow, standIns := [], harness := (true, "f61c479a8125c1b52ed3aedd2ccbc60304ad1c02b5577120c891993ab6f7a9a4"), looks := true }, kinds := [], alts := [], laidByText := true, laidKinds := [.data, .data, .data], laidTests := true, laidLooks := .later }
def PptrWordsCardSaid : Prop := Claim7.holds Tryd.pinned (.plain (OpenSpec.ofChange pptrWordsSpec)) pptrWordsCard

/-- THE TIED CARD OF 'bedrocklaw09.PptrMoves'. -/
def pptrMovesCard : Claim7 := { stood := { row := pptrMovesRow, standIns := [], harness := (true, "f61c479a8125c1b52ed3aedd2ccbc60304ad1c02b5577120c891993ab6f7a9a4"), looks := true }, kinds := [], alts := [], laidByText := true, laidKinds := [.data, .data, .data], laidTests := true, laidLooks := .later }
def PptrMovesCardSaid : Prop := Claim7.holds Tryd.pinned (.plain (OpenSpec.ofChange pptrMovesSpec)) pptrMovesCard

/-- THE TIED CARD OF 'bedrocklaw09.PptrTwoMoves'. -/
def pptrTwoMovesCard : Claim7 := { stood := { row := pptrTwoMovesRow, standIns := [], harness := (true, "f61c479a8125c1b52ed3aedd2ccbc60304ad1c02b5577120c891993ab6f7a9a4"), looks := true }, kinds := [], alts := [], laidByText := true, laidKinds := [.data, .data, .data], laidTests := true, laidLooks := .later }
def PptrTwoMovesCardSaid : Prop := Claim7.holds Tryd.pinned (.plain (OpenSpec.ofChange pptrTwoMovesSpec)) pptrTwoMovesCard

/-- THE TIED CARD OF 'bedrocklaw09.PptrMakes'. -/
def pptrMakesCard : Claim7 := { stood := { row := pptrMakesRow, standIns := [], harness := (true, "f61c479a8125c1b52ed3aedd2ccbc60304ad1c02b5577120c891993ab6f7a9a4"), looks := true }, kinds := [], alts := [], laidByText := true, laidKinds := [.data, .data, .data], laidTests := true, laidLooks := .later }
def PptrMakesCardSaid : Prop := Claim7.holds Tryd.pinned (.plain (OpenSpec.ofChange pptrMakesSpec)) pptrMakesCard

/-- THE TIED CARD OF 'bedrocklaw09.PptrParts'. -/
def pptrPartsCard : Claim7 := { stood := { row := pptrPartsRow, standIns := [], harness := (true, "f61c479a8125c1b52ed3aedd2ccbc60304ad1c02b5577120c891993ab6f7a9a4"), looks := true }, kinds := [], alts := [], laidByText := true, laidKinds := [.data, .data, .data], laidTests := true, laidLooks := .later }
def PptrPartsCardSaid : Prop := Claim7.holds Tryd.pinned (.plain (OpenSpec.ofChange pptrPartsSpec)) pptrPartsCard

/-- THE TIED CARD OF 'bedrocklaw09.PptrGens'. -/
def pptrGensCard : Claim7 := { stood := { row := pptrGensRow, standIns := [], harness := (true, "f61c479a8125c1b52ed3aedd2ccbc60304ad1c02b5577120c891993ab6f7a9a4"), looks := true }, kinds := [], alts := [], laidByText := true, laidKinds := [.data, .data, .data], laidTests := true, laidLooks := .later }
def PptrGensCardSaid : Prop := Claim7.holds Tryd.pinned (.plain (OpenSpec.ofChange pptrGensSpec)) pptrGensCard

/-- THE TIED CARD OF 'bedrocklaw09.PptrTexts'. -/
def pptrTextsCard : Claim7 := { stood := { row := pptrTextsRow, standIns := [], harness := (true, "f61c479a8125c1b52ed3aedd2ccbc60304ad1c02b5577120c891993ab6f7a9a4"), looks := true }, kinds := [], alts := [], laidByText := true, laidKinds := [.data, .data, .data, .sentinel, .sentinel], laidTests := true, laidLooks := .later }
def PptrTextsCardSaid : Prop := Claim7.holds Tryd.pinned (.plain (OpenSpec.ofChange pptrTextsSpec)) pptrTextsCard

/-- THE TIED CARD OF 'bedrocklaw09.PptrParses'. -/
def pptrParsesCard : Claim7 := { stood := { row := pptrParsesRow, standIns := [], harness := (true, "f61c479a8125c1b52ed3aedd2ccbc60304ad1c02b5577120c891993ab6f7a9a4"), looks := true }, kinds := [], alts := [], laidByText := true, laidKinds := [.data, .data, .data, .sentinel, .sentinel], laidTests := true, laidLooks := .later }
def PptrParsesCardSaid : Prop := Claim7.holds Tryd.pinned (.plain (OpenSpec.ofChange pptrParsesSpec)) pptrParsesCard

/-- THE SECOND FORM's CARD OF 'bedrocklaw09.PptrWords'. -/
def pptrWordsUptoCard : Claim7 := { stood := { row := pptrWordsUptoRow, standIns := [], harness := (true, "f61c479a8125c1b52ed3aedd2ccbc60304ad1c02b5577120c891993ab6f7a9a4"), looks := true }, kinds := [], alts := [], laidByText := true, laidKinds := [.data, .data, .data], laidTests := true, laidLooks := .later }
def PptrWordsUptoCardSaid : Prop := Claim7.holds Tryd.pinned (.plain (OpenSpec.upto pptrWordsSpec)) pptrWordsUptoCard

/-- THE SECOND FORM's CARD OF 'bedrocklaw09.PptrMoves'. -/
def pptrMovesUptoCard : Claim7 := { stood := { row := pptrMovesUptoRow, standIns := [], harness := (true, "f61c479a8125c1b52ed3aedd2ccbc60304ad1c02b5577120c891993ab6f7a9a4"), looks := true }, kinds := [], alts := [], laidByText := true, laidKinds := [.data, .data, .data], laidTests := true, laidLooks := .later }
def PptrMovesUptoCardSaid : Prop := Claim7.holds Tryd.pinned (.plain (OpenSpec.upto pptrMovesSpec)) pptrMovesUptoCard

/-- THE SECOND FORM's CARD OF 'bedrocklaw09.PptrTwoMoves'. -/
def pptrTwoMovesUptoCard : Claim7 := { stood := { row := pptrTwoMovesUptoRow, standIns := [], harness := (true, "f61c479a8125c1b52ed3aedd2ccbc60304ad1c02b5577120c891993ab6f7a9a4"), looks := true }, kinds := [], alts := [], laidByText := true, laidKinds := [.data, .data, .data], laidTests := true, laidLooks := .later }
def PptrTwoMovesUptoCardSaid : Prop := Claim7.holds Tryd.pinned (.plain (OpenSpec.upto pptrTwoMovesSpec)) pptrTwoMovesUptoCard

/-- THE SECOND FORM's CARD OF 'bedrocklaw09.PptrMakes'. -/
def pptrMakesUptoCard : Claim7 := { stood := { row := pptrMakesUptoRow, standIns := [], harness := (true, "f61c479a8125c1b52ed3aedd2ccbc60304ad1c02b5577120c891993ab6f7a9a4"), looks := true }, kinds := [], alts := [], laidByText := true, laidKinds := [.data, .data, .data], laidTests := true, laidLooks := .later }
def PptrMakesUptoCardSaid : Prop := Claim7.holds Tryd.pinned (.plain (OpenSpec.upto pptrMakesSpec)) pptrMakesUptoCard

/-- THE SECOND FORM's CARD OF 'bedrocklaw09.PptrParts'. -/
def pptrPartsUptoCard : Claim7 := { stood := { row := pptrPartsUptoRow, standIns := [], harness := (true, "f61c479a8125c1b52ed3aedd2ccbc60304ad1c02b5577120c891993ab6f7a9a4"), looks := true }, kinds := [], alts := [], laidByText := true, laidKinds := [.data, .data, .data], laidTests := true, laidLooks := .later }
def PptrPartsUptoCardSaid : Prop := Claim7.holds Tryd.pinned (.plain (OpenSpec.upto pptrPartsSpec)) pptrPartsUptoCard

/-- THE SECOND FORM's CARD OF 'bedrocklaw09.PptrGens'. -/
def pptrGensUptoCard : Claim7 := { stood := { row := pptrGensUptoRow, standIns := [], harness := (true, "f61c479a8125c1b52ed3aedd2ccbc60304ad1c02b5577120c891993ab6f7a9a4"), looks := true }, kinds := [], alts := [], laidByText := true, laidKinds := [.data, .data, .data], laidTests := true, laidLooks := .later }
def PptrGensUptoCardSaid : Prop := Claim7.holds Tryd.pinned (.plain (OpenSpec.upto pptrGensSpec)) pptrGensUptoCard

/-- THE SECOND FORM's CARD OF 'bedrocklaw09.PptrTexts'. -/
def pptrTextsUptoCard : Claim7 := { stood := { row := pptrTextsUptoRow, standIns := [], harness := (true, "f61c479a8125c1b52ed3aedd2ccbc60304ad1c02b5577120c891993ab6f7a9a4"), looks := true }, kinds := [], alts := [], laidByText := true, laidKinds := [.data, .data, .data, .sentinel, .sentinel], laidTests := true, laidLooks := .later }
def PptrTextsUptoCardSaid : Prop := Claim7.holds Tryd.pinned (.plain (OpenSpec.upto pptrTextsSpec)) pptrTextsUptoCard

/-- THE SECOND FORM's CARD OF 'bedrocklaw09.PptrParses'. -/
def pptrParsesUptoCard : Claim7 := { stood := { row := pptrParsesUptoRow, standIns := [], harness := (true, "f61c479a8125c1b52ed3aedd2ccbc60304ad1c02b5577120c891993ab6f7a9a4"), looks := true }, kinds := [], alts := [], laidByText := true, laidKinds := [.data, .data, .data, .sentinel, .sentinel], laidTests := true, laidLooks := .later }
def PptrParsesUptoCardSaid : Prop := Claim7.holds Tryd.pinned (.plain (OpenSpec.upto pptrParsesSpec)) pptrParsesUptoCard
end Rows
end Go.Proofs.YtkmobahedfdikaaDoor
