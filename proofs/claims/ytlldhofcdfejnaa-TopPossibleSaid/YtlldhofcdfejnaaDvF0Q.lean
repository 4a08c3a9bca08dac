/- Contracts of functions of this program, and the plain facts that they rest on. No conditions. -/
import Derived.Test.YtlldhofcdfejnaaDvDQ
set_option linter.unusedSimpArgs false
set_option linter.unusedVariables false
namespace Go.Proofs.Ytlldhofcdfejnaa
open Go Go.Ab
attribute [local irreducible] callK callF loopQ vstep vskip pickE hideP
set_option maxRecDepth 100000
attribute [local go_sem] deO peO cuO liO thO hiO noO
def Dv.put (A : Dv) (r : Nat) (o v : Int) : Dv := { A with hist := upd A.hist r (A.hist r ++ [(o, v)]), cur := A.cur.set (o / 8).toNat v }
def jput (A : Dv) (J : Nat → List (Int × Int)) (r : Nat) (g : Bool) : Nat → List (Int × Int) := fun i => if i = r then (match g with | true => jk A J r | false => []) else J i
theorem jk_put (A : Dv) (J : Nat → List (Int × Int)) (r i : Nat) (o v : Int) (g : Bool) : jk (A.put r o v) (jput A J r g) i = if i = r then (match g with | true => jk A J r | false => []) else jk A J i := by
 unfold jk Dv.put upd jput
 by_cases h : i = r
 ·simp only [h, if_true]
  cases hh : A.hist r <;> cases g <;> simp [hh, jk]
 ·simp only [if_neg h]
theorem drop_row (a b : List (Int × Int)) : (a.map eWr ++ b.map eWr).drop a.length = b.map eWr := by
 rw [List.drop_append_of_le_length (by simp), List.drop_of_length_le (by simp), List.nil_append]
theorem put_p (A : Dv) (r : Nat) (o v : Int) : (A.put r o v).n = A.n ∧ (A.put r o v).per = A.per ∧ (A.put r o v).cur = A.cur.set (o / 8).toNat v ∧ (A.put r o v).done = A.done ∧ (A.put r o v).err = A.err ∧ (A.put r o v).note = A.note ∧ (A.put r o v).off = A.off ∧ (A.put r o v).armed = A.armed ∧ (A.put r o v).left = A.left ∧ (A.put r o v).ex = A.ex := ⟨rfl, rfl, rfl, rfl, rfl, rfl, rfl, rfl, rfl, rfl⟩
theorem put_hist (A : Dv) (r i : Nat) (o v : Int) : (A.put r o v).hist i = if i = r then A.hist r ++ [(o, v)] else A.hist i := rfl
end Go.Proofs.Ytlldhofcdfejnaa