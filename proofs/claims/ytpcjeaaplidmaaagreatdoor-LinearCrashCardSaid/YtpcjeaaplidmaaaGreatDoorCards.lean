/-
  DERIVED. GIVEN WITH THE SEED: THE CARDS: each row of YtpcjeaaplidmaaaGreatDoorRows.lean that lists a variable, with what it lists TIED to the program's text (the seventh form; the later family's looks); each row that meets fmt, with fmt's text TOLD by the authors' own Lean function (tested against real Go, not proved from fmt's source: count such statements apart). THE CARD IS WHAT COUNTS. Prove the row's statement (the work); the ties are given (YtpcjeaaplidmaaaGreatDoorTie.lean); close each card by the builder's one call (the guide's Derived/Test/ToyasCard.lean, 'card_holds'). Laid BY PROGRAM, IN A SANDBOX (cutbox-door.mjs). By AI agents, Wed Nov 11 2026. No macro, syntax, notation, axiom, sorry.
-/
import Derived.Test.YtpcjeaaplidmaaaGreatDoorRows
import GoSem.ClaimSeven
namespace Go.Proofs.YtpcjeaaplidmaaaGreatDoor
namespace Rows

/-- THE TIED CARD OF 'bedrocklaw52.LinearPrefixes'. -/
def linearPrefixesCard : Claim7 := { stood := { row := linearPrefixesRow, standIns := [], harness := (true, "df5a42926168b90bc219c7360db85cd9715d5741df4d09d4f546c25b687e2454"), looks := false }, kinds := [], alts := [], laidByText := true, laidKinds := [.data, .data, .data], laidTests := true, laidLooks := .later }
def LinearPrefixesCardSaid : Prop := Claim7.holds Tryz.pinned (.plain (OpenSpec.ofChange linearPrefixesSpec)) linearPrefixesCard

/-- THE TIED CARD OF 'bedrocklaw52.LinearCrash'. -/
def linearCrashCard : Claim7 := { stood := { row := linearCrashRow, standIns := [], harness := (true, "df5a42926168b90bc219c7360db85cd9715d5741df4d09d4f546c25b687e2454"), looks := false }, kinds := [], alts := [], laidByText := true, laidKinds := [.data, .data, .data], laidTests := true, laidLooks := .later }
def LinearCrashCardSaid : Prop := Claim7.holds Tryz.pinned (.plain (OpenSpec.ofChange linearCrashSpec)) linearCrashCard

/-- THE TIED CARD OF 'bedrocklaw52.LinearChecks'. -/
def linearChecksCard : Claim7 := { stood := { row := linearChecksRow, standIns := [], harness := (true, "df5a42926168b90bc219c7360db85cd9715d5741df4d09d4f546c25b687e2454"), looks := false }, kinds := [], alts := [], laidByText := true, laidKinds := [.data, .data, .data], laidTests := true, laidLooks := .later }
def LinearChecksCardSaid : Prop := Claim7.holds Tryz.pinned (.plain (OpenSpec.ofChange linearChecksSpec)) linearChecksCard

/-- THE TIED CARD OF 'bedrocklaw52.LinearVerifies'. -/
def linearVerifiesCard : Claim7 := { stood := { row := linearVerifiesRow, standIns := [], harness := (true, "df5a42926168b90bc219c7360db85cd9715d5741df4d09d4f546c25b687e2454"), looks := false }, kinds := [], alts := [], laidByText := true, laidKinds := [.data, .data, .data], laidTests := true, laidLooks := .later }
def LinearVerifiesCardSaid : Prop := Claim7.holds Tryz.pinned (.plain (OpenSpec.ofChange linearVerifiesSpec)) linearVerifiesCard

/-- THE SECOND FORM's CARD OF 'bedrocklaw52.LinearPrefixes'. -/
def linearPrefixesUptoCard : Claim7 := { stood := { row := linearPrefixesUptoRow, standIns := [], harness := (true, "df5a42926168b90bc219c7360db85cd9715d5741df4d09d4f546c25b687e2454"), looks := false }, kinds := [], alts := [], laidByText := true, laidKinds := [.data, .data, .data], laidTests := true, laidLooks := .later }
def LinearPrefixesUptoCardSaid : Prop := Claim7.holds Tryz.pinned (.plain (OpenSpec.upto linearPrefixesSpec)) linearPrefixesUptoCard

/-- THE SECOND FORM's CARD OF 'bedrocklaw52.LinearCrash'. -/
def linearCrashUptoCard : Claim7 := { stood := { row := linearCrashUptoRow, standIns := [], harness := (true, "df5a42926168b90bc219c7360db85cd9715d5741df4d09d4f546c25b687e2454"), looks := false }, kinds := [], alts := [], laidByText := true, laidKinds := [.data, .data, .data], laidTests := true, laidLooks := .later }
def LinearCrashUptoCardSaid : Prop := Claim7.holds Tryz.pinned (.plain (OpenSpec.upto linearCrashSpec)) linearCrashUptoCard

/-- THE SECOND FORM's CARD OF 'bedrocklaw52.LinearChecks'. -/
def linearChecksUptoCard : Claim7 := { stood := { row := linearChecksUptoRow, standIns := [], harness := (true, "df5a42926168b90bc219c7360db85cd9715d5741df4d09d4f546c25b687e2454"), looks := false }, kinds := [], alts := [], laidByText := true, laidKinds := [.data, .data, .data], laidTests := true, laidLooks := .later }
def LinearChecksUptoCardSaid : Prop := Claim7.holds Tryz.pinned (.plain (OpenSpec.upto linearChecksSpec)) linearChecksUptoCard

/-- THE SECOND FORM's CARD OF 'bedrocklaw52.LinearVerifies'. -/
def linearVerifiesUptoCard : Claim7 := { stood := { row := linearVerifiesUptoRow, standIns := [], harness := (true, "df5a42926168b90bc219c7360db85cd9715d5741df4d09d4f546c25b687e2454"), looks := false }, kinds := [], alts := [], laidByText := true, laidKinds := [.data, .data, .data], laidTests := true, laidLooks := .later }
def LinearVerifiesUptoCardSaid : Prop := Claim7.holds Tryz.pinned (.plain (OpenSpec.upto linearVerifiesSpec)) linearVerifiesUptoCard
end Rows
end Go.Proofs.YtpcjeaaplidmaaaGreatDoor
