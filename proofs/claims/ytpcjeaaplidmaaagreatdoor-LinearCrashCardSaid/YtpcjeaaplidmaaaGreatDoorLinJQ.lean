/- Contracts of functions of this program, and the plain facts that they rest on. No conditions. -/
import Derived.Test.YtpcjeaaplidmaaaGreatDoorLinIQ
set_option linter.unusedSimpArgs false
set_option linter.unusedVariables false
namespace Go.Proofs.YtpcjeaaplidmaaaGreatDoor
open Go Go.Ab
attribute [local irreducible] callK callF loopQ vstep vskip pickE hideP
open Go.RowKit
set_option maxRecDepth 100000
attribute [local go_sem] Hi.eC Hi.hc Hi.hP sV eM eN pcells_L
def prefR (k : Int) (l : List Hi.C) : Bool × G := runM l fndP 11 (ini k) 0 ⟨[], [], 0, []⟩
attribute [local irreducible] seenV keyM goM runM numL textP befL endN prefR
end Go.Proofs.YtpcjeaaplidmaaaGreatDoor