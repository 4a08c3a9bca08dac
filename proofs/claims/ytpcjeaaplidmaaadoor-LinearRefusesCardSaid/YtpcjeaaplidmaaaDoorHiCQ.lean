/- Contracts of functions of this program, and the plain facts that they rest on. No conditions. -/
import Derived.Test.YtpcjeaaplidmaaaDoorHiBQ
set_option linter.unusedSimpArgs false
set_option linter.unusedVariables false
namespace Go.Proofs.YtpcjeaaplidmaaaDoor.Hi
open Go Go.Ab
attribute [local irreducible] callK callF loopQ vstep vskip pickE hideP
attribute [local go_sem] eC rC eE hc hP hW oW oP sR oH newC
def goes (e th : Int) (c : C) : Prop := c.th = th ∧ c.en < 0 ∧ c.era = e
instance (e th : Int) (c : C) : Decidable (goes e th c) := by unfold goes; exact inferInstance
def busyM (l : List C) (e th : Int) : Bool := l.any fun c => decide (goes e th c)
theorem getD_get {α : Type} (l : List α) (j : Nat) (d : α) (h : j < l.length) : l.getD j d = l[j] := by simp [List.getD_eq_getElem?_getD, h]
attribute [local go_sem] eC rC eE hc hP hW oW oP sR oH newC
end Go.Proofs.YtpcjeaaplidmaaaDoor.Hi