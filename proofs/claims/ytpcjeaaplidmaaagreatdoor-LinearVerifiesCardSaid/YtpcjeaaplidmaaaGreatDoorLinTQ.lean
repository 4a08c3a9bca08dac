/- Contracts of functions of this program, and the plain facts that they rest on. No conditions. -/
import Derived.Test.YtpcjeaaplidmaaaGreatDoorLinSQ
set_option linter.unusedSimpArgs false
set_option linter.unusedVariables false
namespace Go.Proofs.YtpcjeaaplidmaaaGreatDoor
open Go Go.Ab
attribute [local irreducible] callK callF loopQ vstep vskip pickE hideP
open Go.RowKit
set_option maxRecDepth 100000
/-! What the search finds, Verify accepts. -/
def toI (o : List Nat) : List Int := o.map fun (n : Nat) => (n : Int)
/-! The reference's search. -/
def allU (cl : List Hi.C) (u : List Bool) : Prop := ∀ i, i < cl.length → u.getD i false = true ∨ (cl.getD i default).en < 0
def lateU (cl : List Hi.C) (u : List Bool) (i : Nat) : Prop := ∃ k, k < cl.length ∧ u.getD k false = true ∧ Hi.befM cl (i : Int) (k : Int)
def mayU (cl : List Hi.C) (u : List Bool) (i : Nat) : Prop := u.getD i false = false ∧ ∀ k, k < cl.length → u.getD k false = false → 0 ≤ (cl.getD k default).en → k ≠ i → ¬ Hi.befM cl (k : Int) (i : Int)
def resU (k : Int) (cl : List Hi.C) (s : LP) (i : Nat) : Prop := 0 ≤ (cl.getD i default).en → eqR (rapp k s (opC (cl.getD i default))).2 (resC (cl.getD i default))
def canU (k : Int) (cl : List Hi.C) (s : LP) (u : List Bool) (i : Nat) : Prop := ¬ lateU cl u i ∧ mayU cl u i ∧ resU k cl s i
open Classical in
noncomputable def addF (cl : List Hi.C) (s : LP) (u : List Bool) (out : List LP) : List LP := if allU cl u ∧ s ∉ out then out ++ [s] else out
open Classical in
noncomputable def finGo (k : Int) (cl : List Hi.C) (rec : LP → List Bool → List LP → List LP) (s : LP) (u : List Bool) : Nat → Nat → List LP → List LP
 | 0, _, out => out
 | m + 1, i, out => if canU k cl s u i then finGo k cl rec s u m (i + 1) (rec (rapp k s (opC (cl.getD i default))).1 (u.set i true) out) else finGo k cl rec s u m (i + 1) out
noncomputable def finM (k : Int) (cl : List Hi.C) : Nat → LP → List Bool → List LP → List LP
 | 0, _, _, out => out
 | f + 1, s, u, out => finGo k cl (finM k cl f) s u cl.length 0 (addF cl s u out)
def rpath (k : Int) (cl : List Hi.C) : LP → List Bool → List Nat → Prop
 | _, _, [] => True
 | s, u, i :: o => (i < cl.length ∧ canU k cl s u i) ∧ rpath k cl (rapp k s (opC (cl.getD i default))).1 (u.set i true) o
def rend (k : Int) (cl : List Hi.C) : LP → List Nat → LP
 | s, [] => s
 | s, i :: o => rend k cl (rapp k s (opC (cl.getD i default))).1 o
def ruse : List Bool → List Nat → List Bool
 | u, [] => u
 | u, i :: o => ruse (u.set i true) o
def rgood (k : Int) (cl : List Hi.C) (x : LP) (s : LP) (u : List Bool) (o : List Nat) : Prop := rpath k cl s u o ∧ allU cl (ruse u o) ∧ rend k cl s o = x
/-- A mask and a row of bools that say the same. -/
def sameU (cl : List Hi.C) (m : Nat) (u : List Bool) : Prop := u.length = cl.length ∧ ∀ i, i < cl.length → m.testBit i = u.getD i false
end Go.Proofs.YtpcjeaaplidmaaaGreatDoor
