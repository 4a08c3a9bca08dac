/- Contracts of functions of this program, and the plain facts that they rest on. No conditions. -/
import Derived.Test.YtpcjeaaplidmaaaDoorHiDQ
set_option linter.unusedSimpArgs false
set_option linter.unusedVariables false
namespace Go.Proofs.YtpcjeaaplidmaaaDoor.Hi
open Go Go.Ab
attribute [local irreducible] callK callF loopQ vstep vskip pickE hideP
theorem EachI.up {n n' e e' : Int} {c : C} (h : EachI n e c) (h1 : n ≤ n') (h2 : e ≤ e') : EachI n' e' c := by unfold EachI at *; omega
end Go.Proofs.YtpcjeaaplidmaaaDoor.Hi