/- Contracts of functions of this program, and the plain facts that they rest on. No conditions. -/
import Derived.Test.YtpcjeaaplidmaaaGreatDoorLinV3Q
import Derived.Test.YtpcjeaaplidmaaaGreatDoorLinKQ
import Derived.Test.YtpcjeaaplidmaaaGreatDoorLinLQ
set_option linter.unusedSimpArgs false
set_option linter.unusedVariables false
namespace Go.Proofs.YtpcjeaaplidmaaaGreatDoor
open Go Go.Ab
attribute [local irreducible] callK callF loopQ vstep vskip pickE hideP
open Go.RowKit
set_option maxRecDepth 100000
attribute [local go_sem] eLot Hi.eC Hi.rC Hi.eE Hi.hc Hi.hP Hi.hX Hi.hW Hi.oH eI eB
end Go.Proofs.YtpcjeaaplidmaaaGreatDoor