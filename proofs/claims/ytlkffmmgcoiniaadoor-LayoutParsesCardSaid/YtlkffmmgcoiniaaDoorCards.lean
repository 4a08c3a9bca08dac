/-
  DERIVED. GIVEN WITH THE SEED: THE CARDS: each row of YtlkffmmgcoiniaaDoorRows.lean that lists a variable, with what it lists TIED to the program's text (the seventh form; the later family's looks); each row that meets fmt, with fmt's text TOLD by the authors' own Lean function (tested against real Go, not proved from fmt's source: count such statements apart). THE CARD IS WHAT COUNTS. Prove the row's statement (the work); the ties are given (YtlkffmmgcoiniaaDoorTie.lean); close each card by the builder's one call (the guide's Derived/Test/ToyasCard.lean, 'card_holds'). Laid BY PROGRAM, IN A SANDBOX (cutbox-door.mjs). By AI agents, Wed Nov 11 2026. No macro, syntax, notation, axiom, sorry.
-/
import Derived.Test.YtlkffmmgcoiniaaDoorRows
import GoSem.ClaimSeven
namespace Go.Proofs.YtlkffmmgcoiniaaDoor
namespace Rows

/-- THE TIED CARD OF 'bedrocklaw12.LayoutPacks'. -/
def layoutPacksCard : Claim7 := { stood := { row := layoutPacksRow, standIns := [], harness := (true, "44ece0614e4b2c712b3750b5d31e735af3b43e0a063bc46f19ea7abdc89469a8"), looks := true }, kinds := [], alts := [], laidByText := true, laidKinds := [.data, .data, .data, .data, .data], laidTests := true, laidLooks := .later }
def LayoutPacksCardSaid : Prop := Claim7.holds Tryd.pinned (.plain (OpenSpec.ofChange layoutPacksSpec)) layoutPacksCard

/-- THE TIED CARD OF 'bedrocklaw12.LayoutMakes'. -/
def layoutMakesCard : Claim7 := { stood := { row := layoutMakesRow, standIns := [], harness := (true, "44ece0614e4b2c712b3750b5d31e735af3b43e0a063bc46f19ea7abdc89469a8"), looks := true }, kinds := [], alts := [], laidByText := true, laidKinds := [.data, .data, .data, .data, .data], laidTests := true, laidLooks := .later }
def LayoutMakesCardSaid : Prop := Claim7.holds Tryd.pinned (.plain (OpenSpec.ofChange layoutMakesSpec)) layoutMakesCard

/-- THE TIED CARD OF 'bedrocklaw12.LayoutPointers'. -/
def layoutPointersCard : Claim7 := { stood := { row := layoutPointersRow, standIns := [], harness := (true, "44ece0614e4b2c712b3750b5d31e735af3b43e0a063bc46f19ea7abdc89469a8"), looks := true }, kinds := [], alts := [], laidByText := true, laidKinds := [.data, .data, .data, .data, .data], laidTests := true, laidLooks := .later }
def LayoutPointersCardSaid : Prop := Claim7.holds Tryd.pinned (.plain (OpenSpec.ofChange layoutPointersSpec)) layoutPointersCard

/-- THE TIED CARD OF 'bedrocklaw12.LayoutConverts'. -/
def layoutConvertsCard : Claim7 := { stood := { row := layoutConvertsRow, standIns := [], harness := (true, "44ece0614e4b2c712b3750b5d31e735af3b43e0a063bc46f19ea7abdc89469a8"), looks := true }, kinds := [], alts := [], laidByText := true, laidKinds := [.data, .data, .data, .data, .data], laidTests := true, laidLooks := .later }
def LayoutConvertsCardSaid : Prop := Claim7.holds Tryd.pinned (.plain (OpenSpec.ofChange layoutConvertsSpec)) layoutConvertsCard

/-- THE TIED CARD OF 'bedrocklaw12.LayoutApart'. -/
def layoutApartCard : Claim7 := { stood := { row := layoutApartRow, standIns := [], harness := (true, "44ece0614e4b2c712b3750b5d31e735af3b43e0a063bc46f19ea7abdc89469a8"), looks := true }, kinds := [], alts := [], laidByText := true, laidKinds := [.data, .data, .data, .data, .data], laidTests := true, laidLooks := .later }
def LayoutApartCardSaid : Prop := Claim7.holds Tryd.pinned (.plain (OpenSpec.ofChange layoutApartSpec)) layoutApartCard

/-- THE TIED CARD OF 'bedrocklaw12.LayoutSets'. -/
def layoutSetsCard : Claim7 := { stood := { row := layoutSetsRow, standIns := [], harness := (true, "44ece0614e4b2c712b3750b5d31e735af3b43e0a063bc46f19ea7abdc89469a8"), looks := true }, kinds := [], alts := [], laidByText := true, laidKinds := [.data, .data, .data, .data, .data], laidTests := true, laidLooks := .later }
def LayoutSetsCardSaid : Prop := Claim7.holds Tryd.pinned (.plain (OpenSpec.ofChange layoutSetsSpec)) layoutSetsCard

/-- THE TIED CARD OF 'bedrocklaw12.LayoutBack'. -/
def layoutBackCard : Claim7 := { stood := { row := layoutBackRow, standIns := [], harness := (true, "44ece0614e4b2c712b3750b5d31e735af3b43e0a063bc46f19ea7abdc89469a8"), looks := true }, kinds := [], alts := [], laidByText := true, laidKinds := [.data, .data, .data, .data, .data], laidTests := true, laidLooks := .later }
def LayoutBackCardSaid : Prop := Claim7.holds Tryd.pinned (.plain (OpenSpec.ofChange layoutBackSpec)) layoutBackCard

/-- THE TIED CARD OF 'bedrocklaw12.LayoutParses'. -/
def layoutParsesCard : Claim7 := { stood := { row := layoutParsesRow, standIns := [], harness := (true, "44ece0614e4b2c712b3750b5d31e735af3b43e0a063bc46f19ea7abdc89469a8"), looks := true }, kinds := [], alts := [], laidByText := true, laidKinds := [.data, .data, .data, .data, .sentinel, .sentinel, .data, .data, .pinned], laidTests := true, laidLooks := .later }
def LayoutParsesCardSaid : Prop := Claim7.holds Tryd.pinned (.plain (OpenSpec.ofChange layoutParsesSpec)) layoutParsesCard

/-- THE TIED CARD OF 'bedrocklaw12.LayoutTexts'. -/
def layoutTextsCard : Claim7 := { stood := { row := layoutTextsRow, standIns := [], harness := (true, "44ece0614e4b2c712b3750b5d31e735af3b43e0a063bc46f19ea7abdc89469a8"), looks := true }, kinds := [], alts := [], laidByText := true, laidKinds := [.data, .data, .data, .data, .sentinel, .sentinel, .data, .data, .pinned], laidTests := true, laidLooks := .later }
def LayoutTextsCardSaid : Prop := Claim7.holds Tryd.pinned (.plain (OpenSpec.ofChange layoutTextsSpec)) layoutTextsCard

/-- THE SECOND FORM's CARD OF 'bedrocklaw12.LayoutPacks'. -/
def layoutPacksUptoCard : Claim7 := { stood := { row := layoutPacksUptoRow, standIns := [], harness := (true, "44ece0614e4b2c712b3750b5d31e735af3b43e0a063bc46f19ea7abdc89469a8"), looks := true }, kinds := [], alts := [], laidByText := true, laidKinds := [.data, .data, .data, .data, .data], laidTests := true, laidLooks := .later }
def LayoutPacksUptoCardSaid : Prop := Claim7.holds Tryd.pinned (.plain (OpenSpec.upto layoutPacksSpec)) layoutPacksUptoCard

/-- THE SECOND FORM's CARD OF 'bedrocklaw12.LayoutMakes'. -/
def layoutMakesUptoCard : Claim7 := { stood := { row := layoutMakesUptoRow, standIns := [], harness := (true, "44ece0614e4b2c712b3750b5d31e735af3b43e0a063bc46f19ea7abdc89469a8"), looks := true }, kinds := [], alts := [], laidByText := true, laidKinds := [.data, .data, .data, .data, .data], laidTests := true, laidLooks := .later }
def LayoutMakesUptoCardSaid : Prop := Claim7.holds Tryd.pinned (.plain (OpenSpec.upto layoutMakesSpec)) layoutMakesUptoCard

/-- THE SECOND FORM's CARD OF 'bedrocklaw12.LayoutPointers'. -/
def layoutPointersUptoCard : Claim7 := { stood := { row := layoutPointersUptoRow, standIns := [], harness := (true, "44ece0614e4b2c712b3750b5d31e735af3b43e0a063bc46f19ea7abdc89469a8"), looks := true }, kinds := [], alts := [], laidByText := true, laidKinds := [.data, .data, .data, .data, .data], laidTests := true, laidLooks := .later }
def LayoutPointersUptoCardSaid : Prop := Claim7.holds Tryd.pinned (.plain (OpenSpec.upto layoutPointersSpec)) layoutPointersUptoCard

/-- THE SECOND FORM's CARD OF 'bedrocklaw12.LayoutConverts'. -/
def layoutConvertsUptoCard : Claim7 := { stood := { row := layoutConvertsUptoRow, standIns := [], harness := (true, "44ece0614e4b2c712b3750b5d31e735af3b43e0a063bc46f19ea7abdc89469a8"), looks := true }, kinds := [], alts := [], laidByText := true, laidKinds := [.data, .data, .data, .data, .data], laidTests := true, laidLooks := .later }
def LayoutConvertsUptoCardSaid : Prop := Claim7.holds Tryd.pinned (.plain (OpenSpec.upto layoutConvertsSpec)) layoutConvertsUptoCard

/-- THE SECOND FORM's CARD OF 'bedrocklaw12.LayoutApart'. -/
def layoutApartUptoCard : Claim7 := { stood := { row := layoutApartUptoRow, standIns := [], harness := (true, "44ece0614e4b2c712b3750b5d31e735af3b43e0a063bc46f19ea7abdc89469a8"), looks := true }, kinds := [], alts := [], laidByText := true, laidKinds := [.data, .data, .data, .data, .data], laidTests := true, laidLooks := .later }
def LayoutApartUptoCardSaid : Prop := Claim7.holds Tryd.pinned (.plain (OpenSpec.upto layoutApartSpec)) layoutApartUptoCard

/-- THE SECOND FORM's CARD OF 'bedrocklaw12.LayoutSets'. -/
def layoutSetsUptoCard : Claim7 := { stood := { row := layoutSetsUptoRow, standIns := [], harness := (true, "44ece0614e4b2c712b3750b5d31e735af3b43e0a063bc46f19ea7abdc89469a8"), looks := true }, kinds := [], alts := [], laidByText := true, laidKinds := [.data, .data, .data, .data, .data], laidTests := true, laidLooks := .later }
def LayoutSetsUptoCardSaid : Prop := Claim7.holds Tryd.pinned (.plain (OpenSpec.upto layoutSetsSpec)) layoutSetsUptoCard

/-- THE SECOND FORM's CARD OF 'bedrocklaw12.LayoutBack'. -/
def layoutBackUptoCard : Claim7 := { stood := { row := layoutBackUptoRow, standIns := [], harness := (true, "44ece0614e4b2c712b3750b5d31e735af3b43e0a063bc46f19ea7abdc89469a8"), looks := true }, kinds := [], alts := [], laidByText := true, laidKinds := [.data, .data, .data, .data, .data], laidTests := true, laidLooks := .later }
def LayoutBackUptoCardSaid : Prop := Claim7.holds Tryd.pinned (.plain (OpenSpec.upto layoutBackSpec)) layoutBackUptoCard

/-- THE SECOND FORM's CARD OF 'bedrocklaw12.LayoutParses'. -/
def layoutParsesUptoCard : Claim7 := { stood := { row := layoutParsesUptoRow, standIns := [], harness := (true, "44ece0614e4b2c712b3750b5d31e735af3b43e0a063bc46f19ea7abdc89469a8"), looks := true }, kinds := [], alts := [], laidByText := true, laidKinds := [.data, .data, .data, .data, .sentinel, .sentinel, .data, .data, .pinned], laidTests := true, laidLooks := .later }
def LayoutParsesUptoCardSaid : Prop := Claim7.holds Tryd.pinned (.plain (OpenSpec.upto layoutParsesSpec)) layoutParsesUptoCard

/-- THE SECOND FORM's CARD OF 'bedrocklaw12.LayoutTexts'. -/
def layoutTextsUptoCard : Claim7 := { stood := { row := layoutTextsUptoRow, standIns := [], harness := (true, "44ece0614e4b2c712b3750b5d31e735af3b43e0a063bc46f19ea7abdc89469a8"), looks := true }, kinds := [], alts := [], laidByText := true, laidKinds := [.data, .data, .data, .data, .sentinel, .sentinel, .data, .data, .pinned], laidTests := true, laidLooks := .later }
def LayoutTextsUptoCardSaid : Prop := Claim7.holds Tryd.pinned (.plain (OpenSpec.upto layoutTextsSpec)) layoutTextsUptoCard
end Rows
end Go.Proofs.YtlkffmmgcoiniaaDoor
