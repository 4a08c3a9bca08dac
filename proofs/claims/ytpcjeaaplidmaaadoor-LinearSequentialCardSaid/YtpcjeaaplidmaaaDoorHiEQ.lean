/- Contracts of functions of this program, and the plain facts that they rest on. No conditions. -/
import Derived.Test.YtpcjeaaplidmaaaDoorHiDQ
set_option linter.unusedSimpArgs false
set_option linter.unusedVariables false
namespace Go.Proofs.YtpcjeaaplidmaaaDoor.Hi
open Go Go.Ab
attribute [local irreducible] callK callF loopQ vstep vskip pickE hideP
theorem gA_lt {α : Type} (l : List α) (c d : α) (j : Nat) (h : j < l.length) : (l ++ [c]).getD j d = l.getD j d := by simp [List.getD_eq_getElem?_getD, List.getElem?_append_left h]
theorem gA_eq {α : Type} (l : List α) (c d : α) : (l ++ [c]).getD l.length d = c := by simp [List.getD_eq_getElem?_getD]
theorem EachI.up {n n' e e' : Int} {c : C} (h : EachI n e c) (h1 : n ≤ n') (h2 : e ≤ e') : EachI n' e' c := by unfold EachI at *; omega
end Go.Proofs.YtpcjeaaplidmaaaDoor.Hi
