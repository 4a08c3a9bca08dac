/-
  DERIVED. GIVEN WITH THE SEED: THE CARDS: each row of YtpcjeaaplidmaaaDoorRows.lean that lists a variable, with what it lists TIED to the program's text (the seventh form; the later family's looks); each row that meets fmt, with fmt's text TOLD by the authors' own Lean function (tested against real Go, not proved from fmt's source: count such statements apart). THE CARD IS WHAT COUNTS. Prove the row's statement (the work); the ties are given (YtpcjeaaplidmaaaDoorTie.lean); close each card by the builder's one call (the guide's Derived/Test/ToyasCard.lean, 'card_holds'). Laid BY PROGRAM, IN A SANDBOX (cutbox-door.mjs). By AI agents, Wed Nov 11 2026. No macro, syntax, notation, axiom, sorry.
-/
import Derived.Test.YtpcjeaaplidmaaaDoorRows
import GoSem.ClaimSeven
namespace Go.Proofs.YtpcjeaaplidmaaaDoor
namespace Rows

/-- THE TIED CARD OF 'bedrocklaw52.LinearSequential'. -/
def linearSequentialCard : Claim7 := { stood := { row := linearSequentialRow, standIns := [], harness := (true, "596f24ed1347350ad1716193ba0bdfaf0bf711b058444d45a9b12a8f403a1686"), looks := false }, kinds := [], alts := [], laidByText := true, laidKinds := [.data, .data, .data], laidTests := true, laidLooks := .later }
def LinearSequentialCardSaid : Prop := Claim7.holds Tryd.pinned (.plain (OpenSpec.ofChange linearSequentialSpec)) linearSequentialCard

/-- THE TIED CARD OF 'bedrocklaw52.LinearFound'. -/
def linearFoundCard : Claim7 := { stood := { row := linearFoundRow, standIns := [], harness := (true, "596f24ed1347350ad1716193ba0bdfaf0bf711b058444d45a9b12a8f403a1686"), looks := false }, kinds := [], alts := [], laidByText := true, laidKinds := [.data, .data, .data], laidTests := true, laidLooks := .later }
def LinearFoundCardSaid : Prop := Claim7.holds Tryd.pinned (.plain (OpenSpec.ofChange linearFoundSpec)) linearFoundCard

/-- THE TIED CARD OF 'bedrocklaw52.LinearRefuses'. -/
def linearRefusesCard : Claim7 := { stood := { row := linearRefusesRow, standIns := [], harness := (true, "596f24ed1347350ad1716193ba0bdfaf0bf711b058444d45a9b12a8f403a1686"), looks := false }, kinds := [], alts := [], laidByText := true, laidKinds := [.data, .data, .data], laidTests := true, laidLooks := .later }
def LinearRefusesCardSaid : Prop := Claim7.holds Tryd.pinned (.plain (OpenSpec.ofChange linearRefusesSpec)) linearRefusesCard

/-- THE SECOND FORM's CARD OF 'bedrocklaw52.LinearSequential'. -/
def linearSequentialUptoCard : Claim7 := { stood := { row := linearSequentialUptoRow, standIns := [], harness := (true, "596f24ed1347350ad1716193ba0bdfaf0bf711b058444d45a9b12a8f403a1686"), looks := false }, kinds := [], alts := [], laidByText := true, laidKinds := [.data, .data, .data], laidTests := true, laidLooks := .later }
def LinearSequentialUptoCardSaid : Prop := Claim7.holds Tryd.pinned (.plain (OpenSpec.upto linearSequentialSpec)) linearSequentialUptoCard

/-- THE SECOND FORM's CARD OF 'bedrocklaw52.LinearFound'. -/
def linearFoundUptoCard : Claim7 := { stood := { row := linearFoundUptoRow, standIns := [], harness := (true, "596f24ed1347350ad1716193ba0bdfaf0bf711b058444d45a9b12a8f403a1686"), looks := false }, kinds := [], alts := [], laidByText := true, laidKinds := [.data, .data, .data], laidTests := true, laidLooks := .later }
def LinearFoundUptoCardSaid : Prop := Claim7.holds Tryd.pinned (.plain (OpenSpec.upto linearFoundSpec)) linearFoundUptoCard

/-- THE SECOND FORM's CARD OF 'bedrocklaw52.LinearRefuses'. -/
def linearRefusesUptoCard : Claim7 := { stood := { row := linearRefusesUptoRow, standIns := [], harness := (true, "596f24ed1347350ad1716193ba0bdfaf0bf711b058444d45a9b12a8f403a1686"), looks := false }, kinds := [], alts := [], laidByText := true, laidKinds := [.data, .data, .data], laidTests := true, laidLooks := .later }
def LinearRefusesUptoCardSaid : Prop := Claim7.holds Tryd.pinned (.plain (OpenSpec.upto linearRefusesSpec)) linearRefusesUptoCard
end Rows
end Go.Proofs.YtpcjeaaplidmaaaDoor
