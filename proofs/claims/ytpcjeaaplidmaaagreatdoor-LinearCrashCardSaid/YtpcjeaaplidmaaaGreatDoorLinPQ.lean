/- Contracts of functions of this program, and the plain facts that they rest on. No conditions. -/
import Derived.Test.YtpcjeaaplidmaaaGreatDoorLinOQ
import Derived.Test.YtpcjeaaplidmaaaGreatDoorLinHQ
set_option linter.unusedSimpArgs false
set_option linter.unusedVariables false
namespace Go.Proofs.YtpcjeaaplidmaaaGreatDoor
open Go Go.Ab
attribute [local irreducible] callK callF loopQ vstep vskip pickE hideP
open Go.RowKit
set_option maxRecDepth 100000
attribute [local go_sem] Hi.eC Hi.rC Hi.eE Hi.hc Hi.hP Hi.oH sV eM eN eI eB pcells_L
attribute [local irreducible] seenV keyM goM runM numL textP befL endN checkR prefR usedL bgT eraT stT
end Go.Proofs.YtpcjeaaplidmaaaGreatDoor