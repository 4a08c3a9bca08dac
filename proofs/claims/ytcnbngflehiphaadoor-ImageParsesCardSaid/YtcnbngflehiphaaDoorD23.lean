/- Contracts of functions of this program, and the plain facts that they rest on. No conditions. -/
import Derived.Test.YtcnbngflehiphaaDoorD18
import Derived.Test.YtcnbngflehiphaaDoorD19
set_option linter.unusedSimpArgs false
set_option linter.unusedVariables false
namespace Go.Proofs.YtcnbngflehiphaaDoor
open Go Go.Ab
attribute [local irreducible] callK callF loopQ vstep vskip pickE hideP
open Go.RowKit
set_option maxRecDepth 100000
/-! Rows, there and back. -/
theorem col_dec (n : Nat) : (58 : UInt8) ∉ numL n := fun h => by
  have := (dec_val n).2 58 h
  unfold Dig at this; revert this; decide
theorem nl_dec (n : Nat) : (10 : UInt8) ∉ numL n := fun h => by
  have := (dec_val n).2 10 h
  unfold Dig at this; revert this; decide
theorem lnS_row {n : Nat} {r : List UInt8} (hn : n ≤ 4096) (hr : r.length = 136) : lnS (numL n ++ 58 :: r) = some (n, r) := by
  unfold lnS
  rw [cut_hit 58 _ _ (col_dec n)]
  have h := numOk_dec (lim := 4096) hn
  show (if numOk 4096 (Lib.decDigits n) = true ∧ r.length = 136 then some (valA 0 (Lib.decDigits n), r) else none) = _
  rw [if_pos ⟨h.1, hr⟩, h.2]
theorem lnS_inv {t : List UInt8} {n : Nat} {r : List UInt8} (h : lnS t = some (n, r)) : t = numL n ++ 58 :: r := by
  rcases cut_spec 58 t with ⟨_, hc⟩ | ⟨a, b, rfl, hx, hc⟩
  · unfold lnS at h; rw [hc] at h; cases h
  · unfold lnS at h; rw [hc] at h
    dsimp only at h
    split at h
    · rename_i hh
      simp only [Option.some.injEq, Prod.mk.injEq] at h
      obtain ⟨rfl, rfl⟩ := h
      have := (numOk_inv hh.1).1
      show a ++ _ = Lib.decDigits _ ++ _
      rw [← this]
    · cases h
end Go.Proofs.YtcnbngflehiphaaDoor
