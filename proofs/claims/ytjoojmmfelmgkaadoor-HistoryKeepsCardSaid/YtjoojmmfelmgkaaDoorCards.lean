/-
  DERIVED. GIVEN WITH THE SEED: THE CARDS: each row of YtjoojmmfelmgkaaDoorRows.lean that lists a variable, with what it lists TIED to the program's text (the seventh form; the later family's looks); each row that meets fmt, with fmt's text TOLD by the authors' own Lean function (tested against real Go, not proved from fmt's source: count such statements apart). THE CARD IS WHAT COUNTS. Prove the row's statement (the work); the ties are given (YtjoojmmfelmgkaaDoorTie.lean); close each card by the builder's one call (the guide's Derived/Test/ToyasCard.lean, 'card_holds'). Laid BY PROGRAM, IN A SANDBOX (cutbox-door.mjs). By AI agents, Wed Nov 11 2026. No macro, syntax, notation, axiom, sorry.
-/
import Derived.Test.YtjoojmmfelmgkaaDoorRows
import GoSem.ClaimSeven
namespace Go.Proofs.YtjoojmmfelmgkaaDoor
namespace Rows

/-- THE TIED CARD OF 'bedrocklaw50.HistoryPlays'. -/
def historyPlaysCard : Claim7 := { stood := { row := historyPlaysRow, standIns := [], harness := (true, "b56097fbb98cf73794ffb448e950d9119340fe30ed933c9c4edfaba1ad93a42a"), looks := true }, kinds := [], alts := [], laidByText := true, laidKinds := [.data, .data, .data], laidTests := true, laidLooks := .later }
def HistoryPlaysCardSaid : Prop := Claim7.holds Tryd.pinned (.plain (OpenSpec.ofChange historyPlaysSpec)) historyPlaysCard

/-- THE TIED CARD OF 'bedrocklaw50.HistoryBefore'. -/
def historyBeforeCard : Claim7 := { stood := { row := historyBeforeRow, standIns := [], harness := (true, "b56097fbb98cf73794ffb448e950d9119340fe30ed933c9c4edfaba1ad93a42a"), looks := true }, kinds := [], alts := [], laidByText := true, laidKinds := [.data, .data, .data], laidTests := true, laidLooks := .later }
def HistoryBeforeCardSaid : Prop := Claim7.holds Tryd.pinned (.plain (OpenSpec.ofChange historyBeforeSpec)) historyBeforeCard

/-- THE TIED CARD OF 'bedrocklaw50.HistoryOrders'. -/
def historyOrdersCard : Claim7 := { stood := { row := historyOrdersRow, standIns := [], harness := (true, "b56097fbb98cf73794ffb448e950d9119340fe30ed933c9c4edfaba1ad93a42a"), looks := true }, kinds := [], alts := [], laidByText := true, laidKinds := [.data, .data, .data], laidTests := true, laidLooks := .later }
def HistoryOrdersCardSaid : Prop := Claim7.holds Tryd.pinned (.plain (OpenSpec.ofChange historyOrdersSpec)) historyOrdersCard

/-- THE TIED CARD OF 'bedrocklaw50.HistoryNils'. -/
def historyNilsCard : Claim7 := { stood := { row := historyNilsRow, standIns := [], harness := (true, "b56097fbb98cf73794ffb448e950d9119340fe30ed933c9c4edfaba1ad93a42a"), looks := true }, kinds := [], alts := [], laidByText := true, laidKinds := [.data, .data, .data], laidTests := true, laidLooks := .later }
def HistoryNilsCardSaid : Prop := Claim7.holds Tryd.pinned (.plain (OpenSpec.ofChange historyNilsSpec)) historyNilsCard

/-- THE TIED CARD OF 'bedrocklaw50.HistoryTexts'. -/
def historyTextsCard : Claim7 := { stood := { row := historyTextsRow, standIns := [], harness := (true, "b56097fbb98cf73794ffb448e950d9119340fe30ed933c9c4edfaba1ad93a42a"), looks := true }, kinds := [], alts := [], laidByText := true, laidKinds := [.data, .data, .data, .data, .sentinel, .sentinel, .pinned], laidTests := true, laidLooks := .later }
def HistoryTextsCardSaid : Prop := Claim7.holds Tryd.pinned (.plain (OpenSpec.ofChange historyTextsSpec)) historyTextsCard

/-- THE TIED CARD OF 'bedrocklaw50.HistoryKeeps'. -/
def historyKeepsCard : Claim7 := { stood := { row := historyKeepsRow, standIns := [], harness := (true, "b56097fbb98cf73794ffb448e950d9119340fe30ed933c9c4edfaba1ad93a42a"), looks := true }, kinds := [], alts := [], laidByText := true, laidKinds := [.data, .data, .data, .data, .sentinel, .sentinel, .pinned], laidTests := true, laidLooks := .later }
def HistoryKeepsCardSaid : Prop := Claim7.holds Tryd.pinned (.plain (OpenSpec.ofChange historyKeepsSpec)) historyKeepsCard

/-- THE SECOND FORM's CARD OF 'bedrocklaw50.HistoryPlays'. -/
def historyPlaysUptoCard : Claim7 := { stood := { row := historyPlaysUptoRow, standIns := [], harness := (true, "b56097fbb98cf73794ffb448e950d9119340fe30ed933c9c4edfaba1ad93a42a"), looks := true }, kinds := [], alts := [], laidByText := true, laidKinds := [.data, .data, .data], laidTests := true, laidLooks := .later }
def HistoryPlaysUptoCardSaid : Prop := Claim7.holds Tryd.pinned (.plain (OpenSpec.upto historyPlaysSpec)) historyPlaysUptoCard

/-- THE SECOND FORM's CARD OF 'bedrocklaw50.HistoryBefore'. -/
def historyBeforeUptoCard : Claim7 := { stood := { row := historyBeforeUptoRow, standIns := [], harness := (true, "b56097fbb98cf73794ffb448e950d9119340fe30ed933c9c4edfaba1ad93a42a"), looks := true }, kinds := [], alts := [], laidByText := true, laidKinds := [.data, .data, .data], laidTests := true, laidLooks := .later }
def HistoryBeforeUptoCardSaid : Prop := Claim7.holds Tryd.pinned (.plain (OpenSpec.upto historyBeforeSpec)) historyBeforeUptoCard

/-- THE SECOND FORM's CARD OF 'bedrocklaw50.HistoryOrders'. -/
def historyOrdersUptoCard : Claim7 := { stood := { row := historyOrdersUptoRow, standIns := [], harness := (true, "b56097fbb98cf73794ffb448e950d9119340fe30ed933c9c4edfaba1ad93a42a"), looks := true }, kinds := [], alts := [], laidByText := true, laidKinds := [.data, .data, .data], laidTests := true, laidLooks := .later }
def HistoryOrdersUptoCardSaid : Prop := Claim7.holds Tryd.pinned (.plain (OpenSpec.upto historyOrdersSpec)) historyOrdersUptoCard

/-- THE SECOND FORM's CARD OF 'bedrocklaw50.HistoryNils'. -/
def historyNilsUptoCard : Claim7 := { stood := { row := historyNilsUptoRow, standIns := [], harness := (true, "b56097fbb98cf73794ffb448e950d9119340fe30ed933c9c4edfaba1ad93a42a"), looks := true }, kinds := [], alts := [], laidByText := true, laidKinds := [.data, .data, .data], laidTests := true, laidLooks := .later }
def HistoryNilsUptoCardSaid : Prop := Claim7.holds Tryd.pinned (.plain (OpenSpec.upto historyNilsSpec)) historyNilsUptoCard

/-- THE SECOND FORM's CARD OF 'bedrocklaw50.HistoryTexts'. -/
def historyTextsUptoCard : Claim7 := { stood := { row := historyTextsUptoRow, standIns := [], harness := (true, "b56097fbb98cf73794ffb448e950d9119340fe30ed933c9c4edfaba1ad93a42a"), looks := true }, kinds := [], alts := [], laidByText := true, laidKinds := [.data, .data, .data, .data, .sentinel, .sentinel, .pinned], laidTests := true, laidLooks := .later }
def HistoryTextsUptoCardSaid : Prop := Claim7.holds Tryd.pinned (.plain (OpenSpec.upto historyTextsSpec)) historyTextsUptoCard

/-- THE SECOND FORM's CARD OF 'bedrocklaw50.HistoryKeeps'. -/
def historyKeepsUptoCard : Claim7 := { stood := { row := historyKeepsUptoRow, standIns := [], harness := (true, "b56097fbb98cf73794ffb448e950d9119340fe30ed933c9c4edfaba1ad93a42a"), looks := true }, kinds := [], alts := [], laidByText := true, laidKinds := [.data, .data, .data, .data, .sentinel, .sentinel, .pinned], laidTests := true, laidLooks := .later }
def HistoryKeepsUptoCardSaid : Prop := Claim7.holds Tryd.pinned (.plain (OpenSpec.upto historyKeepsSpec)) historyKeepsUptoCard
end Rows
end Go.Proofs.YtjoojmmfelmgkaaDoor
