/-
  DERIVED. GIVEN WITH THE SEED: THE CARDS: each row of YtcnbngflehiphaaDoorRows.lean that lists a variable, with what it lists TIED to the program's text (the seventh form; the later family's looks); each row that meets fmt, with fmt's text TOLD by the authors' own Lean function (tested against real Go, not proved from fmt's source: count such statements apart). THE CARD IS WHAT COUNTS. Prove the row's statement (the work); the ties are given (YtcnbngflehiphaaDoorTie.lean); close each card by the builder's one call (the guide's Derived/Test/ToyasCard.lean, 'card_holds'). Laid BY PROGRAM, IN A SANDBOX (cutbox-door.mjs). By AI agents, Wed Nov 11 2026. No macro, syntax, notation, axiom, sorry.
-/
import Derived.Test.YtcnbngflehiphaaDoorRows
import GoSem.ClaimSeven
namespace Go.Proofs.YtcnbngflehiphaaDoor
namespace Rows

/-- THE TIED CARD OF 'bedrocklaw04.ImageBytes'. -/
def imageBytesCard : Claim7 := { stood := { row := imageBytesRow, standIns := [], harness := (true, "6e671ed213cacc2601b6d1daf84bb342209e4fc1c6cd15b1ed8c514d29f71f83"), looks := false }, kinds := [], alts := [], laidByText := true, laidKinds := [.data, .data, .data, .data, .pinned], laidTests := true, laidLooks := .later }
def ImageBytesCardSaid : Prop := Claim7.holds Tryd.pinned (.plain (OpenSpec.ofChange imageBytesSpec)) imageBytesCard

/-- THE TIED CARD OF 'bedrocklaw04.ImageResizes'. -/
def imageResizesCard : Claim7 := { stood := { row := imageResizesRow, standIns := [], harness := (true, "6e671ed213cacc2601b6d1daf84bb342209e4fc1c6cd15b1ed8c514d29f71f83"), looks := false }, kinds := [], alts := [], laidByText := true, laidKinds := [.data, .data, .data, .data, .pinned], laidTests := true, laidLooks := .later }
def ImageResizesCardSaid : Prop := Claim7.holds Tryd.pinned (.plain (OpenSpec.ofChange imageResizesSpec)) imageResizesCard

/-- THE TIED CARD OF 'bedrocklaw04.ImageDiffers'. -/
def imageDiffersCard : Claim7 := { stood := { row := imageDiffersRow, standIns := [], harness := (true, "6e671ed213cacc2601b6d1daf84bb342209e4fc1c6cd15b1ed8c514d29f71f83"), looks := false }, kinds := [], alts := [], laidByText := true, laidKinds := [.data, .data, .data, .data, .pinned], laidTests := true, laidLooks := .later }
def ImageDiffersCardSaid : Prop := Claim7.holds Tryd.pinned (.plain (OpenSpec.ofChange imageDiffersSpec)) imageDiffersCard

/-- THE TIED CARD OF 'bedrocklaw04.ImageWords'. -/
def imageWordsCard : Claim7 := { stood := { row := imageWordsRow, standIns := [], harness := (true, "6e671ed213cacc2601b6d1daf84bb342209e4fc1c6cd15b1ed8c514d29f71f83"), looks := false }, kinds := [], alts := [], laidByText := true, laidKinds := [.data, .data, .data, .data, .pinned], laidTests := true, laidLooks := .later }
def ImageWordsCardSaid : Prop := Claim7.holds Tryd.pinned (.plain (OpenSpec.ofChange imageWordsSpec)) imageWordsCard

/-- THE TIED CARD OF 'bedrocklaw04.ImageZero'. -/
def imageZeroCard : Claim7 := { stood := { row := imageZeroRow, standIns := [], harness := (true, "6e671ed213cacc2601b6d1daf84bb342209e4fc1c6cd15b1ed8c514d29f71f83"), looks := false }, kinds := [], alts := [], laidByText := true, laidKinds := [.data, .data, .data, .data, .pinned], laidTests := true, laidLooks := .later }
def ImageZeroCardSaid : Prop := Claim7.holds Tryd.pinned (.plain (OpenSpec.ofChange imageZeroSpec)) imageZeroCard

/-- THE TIED CARD OF 'bedrocklaw04.ImageSums'. -/
def imageSumsCard : Claim7 := { stood := { row := imageSumsRow, standIns := [], harness := (true, "6e671ed213cacc2601b6d1daf84bb342209e4fc1c6cd15b1ed8c514d29f71f83"), looks := false }, kinds := [], alts := [], laidByText := true, laidKinds := [.data, .data, .data, .data, .data, .pinned], laidTests := true, laidLooks := .later }
def ImageSumsCardSaid : Prop := Claim7.holds Tryd.pinned (.plain (OpenSpec.ofChange imageSumsSpec)) imageSumsCard

/-- THE TIED CARD OF 'bedrocklaw04.ImageDevices'. -/
def imageDevicesCard : Claim7 := { stood := { row := imageDevicesRow, standIns := [], harness := (true, "6e671ed213cacc2601b6d1daf84bb342209e4fc1c6cd15b1ed8c514d29f71f83"), looks := false }, kinds := [], alts := [], laidByText := true, laidKinds := [.data, .data, .data, .data, .pinned], laidTests := true, laidLooks := .later }
def ImageDevicesCardSaid : Prop := Claim7.holds Tryd.pinned (.plain (OpenSpec.ofChange imageDevicesSpec)) imageDevicesCard

/-- THE TIED CARD OF 'bedrocklaw04.ImageParses'. -/
def imageParsesCard : Claim7 := { stood := { row := imageParsesRow, standIns := [], harness := (true, "6e671ed213cacc2601b6d1daf84bb342209e4fc1c6cd15b1ed8c514d29f71f83"), looks := false }, kinds := [], alts := [], laidByText := true, laidKinds := [.data, .data, .data, .data, .pinned], laidTests := true, laidLooks := .later }
def ImageParsesCardSaid : Prop := Claim7.holds Tryd.pinned (.plain (OpenSpec.ofChange imageParsesSpec)) imageParsesCard

/-- THE TIED CARD OF 'bedrocklaw04.ImageTexts'. -/
def imageTextsCard : Claim7 := { stood := { row := imageTextsRow, standIns := [], harness := (true, "6e671ed213cacc2601b6d1daf84bb342209e4fc1c6cd15b1ed8c514d29f71f83"), looks := false }, kinds := [], alts := [], laidByText := true, laidKinds := [.data, .data, .data, .data, .pinned], laidTests := true, laidLooks := .later }
def ImageTextsCardSaid : Prop := Claim7.holds Tryd.pinned (.plain (OpenSpec.ofChange imageTextsSpec)) imageTextsCard

/-- THE TIED CARD OF 'bedrocklaw04.ImageCrashes'. -/
def imageCrashesCard : Claim7 := { stood := { row := imageCrashesRow, standIns := [], harness := (true, "6e671ed213cacc2601b6d1daf84bb342209e4fc1c6cd15b1ed8c514d29f71f83"), looks := false }, kinds := [], alts := [], laidByText := true, laidKinds := [.data, .data, .data, .data, .pinned], laidTests := true, laidLooks := .later }
def ImageCrashesCardSaid : Prop := Claim7.holds Tryd.pinned (.plain (OpenSpec.ofChange imageCrashesSpec)) imageCrashesCard

/-- THE SECOND FORM's CARD OF 'bedrocklaw04.ImageBytes'. -/
def imageBytesUptoCard : Claim7 := { stood := { row := imageBytesUptoRow, standIns := [], harness := (true, "6e671ed213cacc2601b6d1daf84bb342209e4fc1c6cd15b1ed8c514d29f71f83"), looks := false }, kinds := [], alts := [], laidByText := true, laidKinds := [.data, .data, .data, .data, .pinned], laidTests := true, laidLooks := .later }
def ImageBytesUptoCardSaid : Prop := Claim7.holds Tryd.pinned (.plain (OpenSpec.upto imageBytesSpec)) imageBytesUptoCard

/-- THE SECOND FORM's CARD OF 'bedrocklaw04.ImageResizes'. -/
def imageResizesUptoCard : Claim7 := { stood := { row := imageResizesUptoRow, standIns := [], harness := (true, "6e671ed213cacc2601b6d1daf84bb342209e4fc1c6cd15b1ed8c514d29f71f83"), looks := false }, kinds := [], alts := [], laidByText := true, laidKinds := [.data, .data, .data, .data, .pinned], laidTests := true, laidLooks := .later }
def ImageResizesUptoCardSaid : Prop := Claim7.holds Tryd.pinned (.plain (OpenSpec.upto imageResizesSpec)) imageResizesUptoCard

/-- THE SECOND FORM's CARD OF 'bedrocklaw04.ImageDiffers'. -/
def imageDiffersUptoCard : Claim7 := { stood := { row := imageDiffersUptoRow, standIns := [], harness := (true, "6e671ed213cacc2601b6d1daf84bb342209e4fc1c6cd15b1ed8c514d29f71f83"), looks := false }, kinds := [], alts := [], laidByText := true, laidKinds := [.data, .data, .data, .data, .pinned], laidTests := true, laidLooks := .later }
def ImageDiffersUptoCardSaid : Prop := Claim7.holds Tryd.pinned (.plain (OpenSpec.upto imageDiffersSpec)) imageDiffersUptoCard

/-- THE SECOND FORM's CARD OF 'bedrocklaw04.ImageWords'. -/
def imageWordsUptoCard : Claim7 := { stood := { row := imageWordsUptoRow, standIns := [], harness := (true, "6e671ed213cacc2601b6d1daf84bb342209e4fc1c6cd15b1ed8c514d29f71f83"), looks := false }, kinds := [], alts := [], laidByText := true, laidKinds := [.data, .data, .data, .data, .pinned], laidTests := true, laidLooks := .later }
def ImageWordsUptoCardSaid : Prop := Claim7.holds Tryd.pinned (.plain (OpenSpec.upto imageWordsSpec)) imageWordsUptoCard

/-- THE SECOND FORM's CARD OF 'bedrocklaw04.ImageZero'. -/
def imageZeroUptoCard : Claim7 := { stood := { row := imageZeroUptoRow, standIns := [], harness := (true, "6e671ed213cacc2601b6d1daf84bb342209e4fc1c6cd15b1ed8c514d29f71f83"), looks := false }, kinds := [], alts := [], laidByText := true, laidKinds := [.data, .data, .data, .data, .pinned], laidTests := true, laidLooks := .later }
def ImageZeroUptoCardSaid : Prop := Claim7.holds Tryd.pinned (.plain (OpenSpec.upto imageZeroSpec)) imageZeroUptoCard

/-- THE SECOND FORM's CARD OF 'bedrocklaw04.ImageSums'. -/
def imageSumsUptoCard : Claim7 := { stood := { row := imageSumsUptoRow, standIns := [], harness := (true, "6e671ed213cacc2601b6d1daf84bb342209e4fc1c6cd15b1ed8c514d29f71f83"), looks := false }, kinds := [], alts := [], laidByText := true, laidKinds := [.data, .data, .data, .data, .data, .pinned], laidTests := true, laidLooks := .later }
def ImageSumsUptoCardSaid : Prop := Claim7.holds Tryd.pinned (.plain (OpenSpec.upto imageSumsSpec)) imageSumsUptoCard

/-- THE SECOND FORM's CARD OF 'bedrocklaw04.ImageDevices'. -/
def imageDevicesUptoCard : Claim7 := { stood := { row := imageDevicesUptoRow, standIns := [], harness := (true, "6e671ed213cacc2601b6d1daf84bb342209e4fc1c6cd15b1ed8c514d29f71f83"), looks := false }, kinds := [], alts := [], laidByText := true, laidKinds := [.data, .data, .data, .data, .pinned], laidTests := true, laidLooks := .later }
def ImageDevicesUptoCardSaid : Prop := Claim7.holds Tryd.pinned (.plain (OpenSpec.upto imageDevicesSpec)) imageDevicesUptoCard

/-- THE SECOND FORM's CARD OF 'bedrocklaw04.ImageParses'. -/
def imageParsesUptoCard : Claim7 := { stood := { row := imageParsesUptoRow, standIns := [], harness := (true, "6e671ed213cacc2601b6d1daf84bb342209e4fc1c6cd15b1ed8c514d29f71f83"), looks := false }, kinds := [], alts := [], laidByText := true, laidKinds := [.data, .data, .data, .data, .pinned], laidTests := true, laidLooks := .later }
def ImageParsesUptoCardSaid : Prop := Claim7.holds Tryd.pinned (.plain (OpenSpec.upto imageParsesSpec)) imageParsesUptoCard

/-- THE SECOND FORM's CARD OF 'bedrocklaw04.ImageTexts'. -/
def imageTextsUptoCard : Claim7 := { stood := { row := imageTextsUptoRow, standIns := [], harness := (true, "6e671ed213cacc2601b6d1daf84bb342209e4fc1c6cd15b1ed8c514d29f71f83"), looks := false }, kinds := [], alts := [], laidByText := true, laidKinds := [.data, .data, .data, .data, .pinned], laidTests := true, laidLooks := .later }
def ImageTextsUptoCardSaid : Prop := Claim7.holds Tryd.pinned (.plain (OpenSpec.upto imageTextsSpec)) imageTextsUptoCard

/-- THE SECOND FORM's CARD OF 'bedrocklaw04.ImageCrashes'. -/
def imageCrashesUptoCard : Claim7 := { stood := { row := imageCrashesUptoRow, standIns := [], harness := (true, "6e671ed213cacc2601b6d1daf84bb342209e4fc1c6cd15b1ed8c514d29f71f83"), looks := false }, kinds := [], alts := [], laidByText := true, laidKinds := [.data, .data, .data, .data, .pinned], laidTests := true, laidLooks := .later }
def ImageCrashesUptoCardSaid : Prop := Claim7.holds Tryd.pinned (.plain (OpenSpec.upto imageCrashesSpec)) imageCrashesUptoCard
end Rows
end Go.Proofs.YtcnbngflehiphaaDoor
