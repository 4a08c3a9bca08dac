/-
  DERIVED. GIVEN WITH THE SEED: THE CARDS: each row of YtckhjklcfagkoaaGreatDoorRows.lean that lists a variable, with what it lists TIED to the program's text (the seventh form; the later family's looks); each row that meets fmt, with fmt's text TOLD by the authors' own Lean function (tested against real Go, not proved from fmt's source: count such statements apart). THE CARD IS WHAT COUNTS. Prove the row's statement (the work); the ties are given (YtckhjklcfagkoaaGreatDoorTie.lean); close each card by the builder's one call (the guide's Derived/Test/ToyasCard.lean, 'card_holds'). Laid BY PROGRAM, IN A SANDBOX (cutbox-door.mjs). By AI agents, Wed Nov 11 2026. No macro, syntax, notation, axiom, sorry.
-/
import Derived.Test.YtckhjklcfagkoaaGreatDoorRows
import GoSem.ClaimSeven
namespace Go.Proofs.YtckhjklcfagkoaaGreatDoor
namespace Rows

/-- THE TIED CARD OF 'bedrocklaw06.ScriptSteps'. -/
def scriptStepsCard : Claim7 := { stood := { row := scriptStepsRow, standIns := [], harness := (true, "cdfc2e25fcfd7a0e0c4ea44bf0fcc253710892852f7fe590dd66f493eb98f033"), looks := true }, kinds := [], alts := [], laidByText := true, laidKinds := [.data, .data, .data, .data, .sentinel, .sentinel, .pinned], laidTests := true, laidLooks := .later }
def ScriptStepsCardSaid : Prop := Claim7.holds Tryz.pinned (.plain (OpenSpec.ofChange scriptStepsSpec)) scriptStepsCard

/-- THE TIED CARD OF 'bedrocklaw06.ScriptRuns'. -/
def scriptRunsCard : Claim7 := { stood := { row := scriptRunsRow, standIns := [], harness := (true, "cdfc2e25fcfd7a0e0c4ea44bf0fcc253710892852f7fe590dd66f493eb98f033"), looks := true }, kinds := [], alts := [], laidByText := true, laidKinds := [.data, .data, .data, .data, .sentinel, .sentinel, .pinned], laidTests := true, laidLooks := .later }
def ScriptRunsCardSaid : Prop := Claim7.holds Tryz.pinned (.plain (OpenSpec.ofChange scriptRunsSpec)) scriptRunsCard

/-- THE TIED CARD OF 'bedrocklaw06.ScriptTwins'. -/
def scriptTwinsCard : Claim7 := { stood := { row := scriptTwinsRow, standIns := [], harness := (true, "cdfc2e25fcfd7a0e0c4ea44bf0fcc253710892852f7fe590dd66f493eb98f033"), looks := true }, kinds := [], alts := [], laidByText := true, laidKinds := [.data, .data, .data, .data, .sentinel, .sentinel, .pinned], laidTests := true, laidLooks := .later }
def ScriptTwinsCardSaid : Prop := Claim7.holds Tryz.pinned (.plain (OpenSpec.ofChange scriptTwinsSpec)) scriptTwinsCard

/-- THE TIED CARD OF 'bedrocklaw06.ScriptLists'. -/
def scriptListsCard : Claim7 := { stood := { row := scriptListsRow, standIns := [], harness := (true, "cdfc2e25fcfd7a0e0c4ea44bf0fcc253710892852f7fe590dd66f493eb98f033"), looks := true }, kinds := [], alts := [], laidByText := true, laidKinds := [.data, .data, .data, .data, .sentinel, .sentinel, .pinned], laidTests := true, laidLooks := .later }
def ScriptListsCardSaid : Prop := Claim7.holds Tryz.pinned (.plain (OpenSpec.ofChange scriptListsSpec)) scriptListsCard

/-- THE TIED CARD OF 'bedrocklaw06.ScriptKeeps'. -/
def scriptKeepsCard : Claim7 := { stood := { row := scriptKeepsRow, standIns := [], harness := (true, "cdfc2e25fcfd7a0e0c4ea44bf0fcc253710892852f7fe590dd66f493eb98f033"), looks := true }, kinds := [], alts := [], laidByText := true, laidKinds := [.data, .data, .data, .data, .sentinel, .sentinel, .pinned], laidTests := true, laidLooks := .later }
def ScriptKeepsCardSaid : Prop := Claim7.holds Tryz.pinned (.plain (OpenSpec.ofChange scriptKeepsSpec)) scriptKeepsCard

/-- THE SECOND FORM's CARD OF 'bedrocklaw06.ScriptSteps'. -/
def scriptStepsUptoCard : Claim7 := { stood := { row := scriptStepsUptoRow, standIns := [], harness := (true, "cdfc2e25fcfd7a0e0c4ea44bf0fcc253710892852f7fe590dd66f493eb98f033"), looks := true }, kinds := [], alts := [], laidByText := true, laidKinds := [.data, .data, .data, .data, .sentinel, .sentinel, .pinned], laidTests := true, laidLooks := .later }
def ScriptStepsUptoCardSaid : Prop := Claim7.holds Tryz.pinned (.plain (OpenSpec.upto scriptStepsSpec)) scriptStepsUptoCard

/-- THE SECOND FORM's CARD OF 'bedrocklaw06.ScriptRuns'. -/
def scriptRunsUptoCard : Claim7 := { stood := { row := scriptRunsUptoRow, standIns := [], harness := (true, "cdfc2e25fcfd7a0e0c4ea44bf0fcc253710892852f7fe590dd66f493eb98f033"), looks := true }, kinds := [], alts := [], laidByText := true, laidKinds := [.data, .data, .data, .data, .sentinel, .sentinel, .pinned], laidTests := true, laidLooks := .later }
def ScriptRunsUptoCardSaid : Prop := Claim7.holds Tryz.pinned (.plain (OpenSpec.upto scriptRunsSpec)) scriptRunsUptoCard

/-- THE SECOND FORM's CARD OF 'bedrocklaw06.ScriptTwins'. -/
def scriptTwinsUptoCard : Claim7 := { stood := { row := scriptTwinsUptoRow, standIns := [], harness := (true, "cdfc2e25fcfd7a0e0c4ea44bf0fcc253710892852f7fe590dd66f493eb98f033"), looks := true }, kinds := [], alts := [], laidByText := true, laidKinds := [.data, .data, .data, .data, .sentinel, .sentinel, .pinned], laidTests := true, laidLooks := .later }
def ScriptTwinsUptoCardSaid : Prop := Claim7.holds Tryz.pinned (.plain (OpenSpec.upto scriptTwinsSpec)) scriptTwinsUptoCard

/-- THE SECOND FORM's CARD OF 'bedrocklaw06.ScriptLists'. -/
def scriptListsUptoCard : Claim7 := { stood := { row := scriptListsUptoRow, standIns := [], harness := (true, "cdfc2e25fcfd7a0e0c4ea44bf0fcc253710892852f7fe590dd66f493eb98f033"), looks := true }, kinds := [], alts := [], laidByText := true, laidKinds := [.data, .data, .data, .data, .sentinel, .sentinel, .pinned], laidTests := true, laidLooks := .later }
def ScriptListsUptoCardSaid : Prop := Claim7.holds Tryz.pinned (.plain (OpenSpec.upto scriptListsSpec)) scriptListsUptoCard

/-- THE SECOND FORM's CARD OF 'bedrocklaw06.ScriptKeeps'. -/
def scriptKeepsUptoCard : Claim7 := { stood := { row := scriptKeepsUptoRow, standIns := [], harness := (true, "cdfc2e25fcfd7a0e0c4ea44bf0fcc253710892852f7fe590dd66f493eb98f033"), looks := true }, kinds := [], alts := [], laidByText := true, laidKinds := [.data, .data, .data, .data, .sentinel, .sentinel, .pinned], laidTests := true, laidLooks := .later }
def ScriptKeepsUptoCardSaid : Prop := Claim7.holds Tryz.pinned (.plain (OpenSpec.upto scriptKeepsSpec)) scriptKeepsUptoCard
end Rows
end Go.Proofs.YtckhjklcfagkoaaGreatDoor
